/- Contracts of the program's functions, each walked once; the conditions stand in each theorem. -/
import Derived.Test.YtoagkleecgngdaaGreatDoorAMp6
import Derived.Test.YtoagkleecgngdaaGreatDoorW1
import Derived.Test.YtoagkleecgngdaaGreatDoorW2
import Derived.Test.YtoagkleecgngdaaGreatDoorAMp5
import Derived.Test.YtoagkleecgngdaaGreatDoorAMp4
import Derived.Test.YtoagkleecgngdaaGreatDoorAMp7
import Derived.Shelf.Spec.SlicesInsertGrow
import Derived.Shelf.Slices.SearchI
import Derived.Shelf.Slices.Empties
set_option linter.unusedSimpArgs false
set_option linter.unusedVariables false
open Nat renaming reduceLT → Na, reduceLeDiff → Nb, reduceEqDiff → Nc, reduceAdd → Nk, reduceMul → Nf, reducePow → Ng, reduceSub → Nh
open Int renaming reduceLT → Za, reduceLE → Zb, reduceToNat → Zc
open Go.AM renaming ashift → Qa, aconv → Qb, aindexAddr → Qc, aindex → Qd, aslice → Qe, abuiltin → Qf, awp_reg_seq → wS, awp_reg_end → wE, awp_seq_k → wK, awp_cond_k → wC
open Go.AM.AV renaming cells → Qg, one → Qh
set_option autoImplicit false
namespace Go.Proofs.YtoagkleecgngdaaGreatDoor
open Go Go.AM Go.Proofs


variable {Γ : Nat → List AV}

theorem nought_weak : (AV.agg [.v (.int .i64 0), .v (.slice none 0 0), .v (.int .i64 0), .v (.int .i64 0), .v (.int .i64 0), .v (.slice none 0 0), .v (.slice none 0 0), .v (.slice none 0 0), .v (.slice none 0 0)]).weak (.agg Rec.nought.cells) :=
  AV.weak_agg (.cons (AV.weak.refl _) (.cons AV.weak_nil (.cons (AV.weak.refl _) (.cons (AV.weak.refl _) (.cons (AV.weak.refl _) (.cons AV.weak_nil (.cons AV.weak_nil (.cons AV.weak_nil (.cons AV.weak_nil .nil)))))))))

theorem rec_weak {k e t u : Int} {g y tr sc wr : List UInt8} {s1 s2 s3 s4 s5 : Sp} : (AV.agg [.v (.int .i64 k), .sl 1 g.length (g.map byteV) s1, .v (.int .i64 e), .v (.int .i64 t), .v (.int .i64 u), .sl 1 y.length (y.map byteV) s2, .sl 1 tr.length (tr.map byteV) s3, .sl 1 sc.length (sc.map byteV) s4, .sl 1 wr.length (wr.map byteV) s5]).weak (.agg (Rec.cells ⟨k, g, e, t, u, y, tr, sc, wr⟩)) :=
  AV.weak_agg (.cons (AV.weak.refl _) (.cons AV.weak_any (.cons (AV.weak.refl _) (.cons (AV.weak.refl _) (.cons (AV.weak.refl _) (.cons AV.weak_any (.cons AV.weak_any (.cons AV.weak_any (.cons AV.weak_any .nil)))))))))

set_option maxRecDepth 100000 in
set_option maxHeartbeats 4000000 in
theorem recRead_calls (b : List UInt8) (hb : b.length ≤ 2 ^ 44) (s : AS) : ACalls Tryz.prog Γ 88 [bytesV b .any] s (fun r s' => r = .tup [.agg (recRead b).1.cells, .v (.int .i64 (recRead b).2)] ∧ s' = s) := by
  refine acalls_body Tryz.func88 rfl Tryz.ntmps88 Tryz.results88 (by simp) ?_
  obtain ⟨q1, e1⟩ : ∃ q, q = eyeNum 1 (b, 0) := ⟨_, rfl⟩
  obtain ⟨q2, e2⟩ : ∃ q, q = eyeText 1 16 q1.2 := ⟨_, rfl⟩
  obtain ⟨q3, e3⟩ : ∃ q, q = eyeNum 8 q2.2 := ⟨_, rfl⟩
  obtain ⟨q4, e4⟩ : ∃ q, q = eyeNum 8 q3.2 := ⟨_, rfl⟩
  obtain ⟨q5, e5⟩ : ∃ q, q = eyeNum 8 q4.2 := ⟨_, rfl⟩
  obtain ⟨q6, e6⟩ : ∃ q, q = eyeText 2 60000 q5.2 := ⟨_, rfl⟩
  obtain ⟨q7, e7⟩ : ∃ q, q = eyeText 1 32 q6.2 := ⟨_, rfl⟩
  obtain ⟨q8, e8⟩ : ∃ q, q = eyeText 1 32 q7.2 := ⟨_, rfl⟩
  obtain ⟨q9, e9⟩ : ∃ q, q = eyeText 1 48 q8.2 := ⟨_, rfl⟩
  have l1 : q1.2.1.length ≤ 2 ^ 44 := by rw [e1]; exact Nat.le_trans (eyeNum_len _ _) hb
  have l2 : q2.2.1.length ≤ 2 ^ 44 := by rw [e2]; exact Nat.le_trans (eyeText_len _ _ _).2 l1
  have l3 : q3.2.1.length ≤ 2 ^ 44 := by rw [e3]; exact Nat.le_trans (eyeNum_len _ _) l2
  have l4 : q4.2.1.length ≤ 2 ^ 44 := by rw [e4]; exact Nat.le_trans (eyeNum_len _ _) l3
  have l5 : q5.2.1.length ≤ 2 ^ 44 := by rw [e5]; exact Nat.le_trans (eyeNum_len _ _) l4
  have l6 : q6.2.1.length ≤ 2 ^ 44 := by rw [e6]; exact Nat.le_trans (eyeText_len _ _ _).2 l5
  have l7 : q7.2.1.length ≤ 2 ^ 44 := by rw [e7]; exact Nat.le_trans (eyeText_len _ _ _).2 l6
  have l8 : q8.2.1.length ≤ 2 ^ 44 := by rw [e8]; exact Nat.le_trans (eyeText_len _ _ _).2 l7
  have l9 : q9.2.1.length ≤ 2 ^ 44 := by rw [e9]; exact Nat.le_trans (eyeText_len _ _ _).2 l8
  have hrr : readRec b = (⟨q1.1, q2.1, iconv .i64 (q3.1 : Int), iconv .i64 (q4.1 : Int), iconv .i64 (q5.1 : Int), q6.1, q7.1, q8.1, q9.1⟩, q9.2) := by subst e9 e8 e7 e6 e5 e4 e3 e2 e1; rfl
  refine wS fun K hK => ?_
  simp only [↓DN,UP,DF,Qa,Qb,Qc,Qd,Qe,Qf,Qg,Qh,reduceCtorEq,↓reduceIte,Na,Nb,Nc,Nk,Nf,Ng,Nh,Za,Zb,Zc,TT]
  intro o2 ho2
  refine hK _ _ ?_;clear hK K
  refine wS fun K hK => ?_
  simp only [↓DN,UP,DF,Qa,Qb,Qc,Qd,Qe,Qf,Qg,Qh,reduceCtorEq,↓reduceIte,Na,Nb,Nc,Nk,Nf,Ng,Nh,Za,Zb,Zc,TT]
  refine acallk (open_set b _ (by omega)) ?_
  rintro r s1 ⟨p, hp, rfl, rfl⟩
  obtain ⟨hp2, hp0⟩ := AS.fresh_set hp
  simp only [↓AXq_nil,↓AXq_cons,pval,DX,Nat.reduceBEq,↓DN,UP,DF,Qa,Qb,Qc,Qd,Qe,Qf,Qg,Qh,reduceCtorEq,↓reduceIte,Na,Nb,Nc,Nk,Nf,Ng,Nh,Za,Zb,Zc,TT]
  refine hK _ _ ?_;clear hK K
  refine wS fun K hK => ?_
  simp only [↓DN,UP,DF,Qa,Qb,Qc,Qd,Qe,Qf,Qg,Qh,reduceCtorEq,↓reduceIte,Na,Nb,Nc,Nk,Nf,Ng,Nh,Za,Zb,Zc,TT]
  refine acallk (eyeU8_set _ p (b, 0) (AS.set_objs_same _ _ _)) ?_
  rintro r s' ⟨rfl, rfl⟩
  rw [← e1]
  simp only [↓AXq_nil,↓AXq_cons,pval,DX,Nat.reduceBEq,↓DN,UP,DF,Qa,Qb,Qc,Qd,Qe,Qf,Qg,Qh,reduceCtorEq,↓reduceIte,Na,Nb,Nc,Nk,Nf,Ng,Nh,Za,Zb,Zc,TT]
  refine acallk (eyeShort_set _ p q1.2 16 (by have := l1; omega) (AS.set_objs_same _ _ _)) ?_
  rintro r s' ⟨rfl, rfl⟩
  rw [← e2]
  simp only [↓AXq_nil,↓AXq_cons,pval,DX,Nat.reduceBEq,↓DN,UP,DF,Qa,Qb,Qc,Qd,Qe,Qf,Qg,Qh,reduceCtorEq,↓reduceIte,Na,Nb,Nc,Nk,Nf,Ng,Nh,Za,Zb,Zc,TT]
  refine acallk (eyeU64_set _ p q2.2 (AS.set_objs_same _ _ _)) ?_
  rintro r s' ⟨rfl, rfl⟩
  rw [← e3]
  simp only [↓AXq_nil,↓AXq_cons,pval,DX,Nat.reduceBEq,↓DN,UP,DF,Qa,Qb,Qc,Qd,Qe,Qf,Qg,Qh,reduceCtorEq,↓reduceIte,Na,Nb,Nc,Nk,Nf,Ng,Nh,Za,Zb,Zc,TT]
  refine acallk (eyeU64_set _ p q3.2 (AS.set_objs_same _ _ _)) ?_
  rintro r s' ⟨rfl, rfl⟩
  rw [← e4]
  simp only [↓AXq_nil,↓AXq_cons,pval,DX,Nat.reduceBEq,↓DN,UP,DF,Qa,Qb,Qc,Qd,Qe,Qf,Qg,Qh,reduceCtorEq,↓reduceIte,Na,Nb,Nc,Nk,Nf,Ng,Nh,Za,Zb,Zc,TT]
  refine acallk (eyeU64_set _ p q4.2 (AS.set_objs_same _ _ _)) ?_
  rintro r s' ⟨rfl, rfl⟩
  rw [← e5]
  simp only [↓AXq_nil,↓AXq_cons,pval,DX,Nat.reduceBEq,↓DN,UP,DF,Qa,Qb,Qc,Qd,Qe,Qf,Qg,Qh,reduceCtorEq,↓reduceIte,Na,Nb,Nc,Nk,Nf,Ng,Nh,Za,Zb,Zc,TT]
  intro o5 ho5
  have h5p : o5 ≠ p := by
    rintro rfl
    simp at ho5
  have h52 : o5 ≠ o2 := by
    rintro rfl
    simp [hp2.symm] at ho5
  have h50 : s.objs o5 = none := by simpa [h5p, h52] using ho5
  have hp5 := h5p.symm
  have h25 := h52.symm
  have h2p := hp2.symm
  refine hK _ _ ?_;clear hK K
  refine wS fun K hK => ?_
  simp only [↓DN,UP,DF,Qa,Qb,Qc,Qd,Qe,Qf,Qg,Qh,reduceCtorEq,↓reduceIte,Na,Nb,Nc,Nk,Nf,Ng,Nh,Za,Zb,Zc,TT]
  refine acallk (eyeLong_set _ p q5.2 60000 (by have := l5; omega) (by rw [AS.set_objs_ne _ hp5, AS.set_objs_same])) ?_
  rintro r s' ⟨rfl, rfl⟩
  rw [← e6]
  rw [AS.set_mid _ hp5]
  simp only [↓AXq_nil,↓AXq_cons,pval,DX,Nat.reduceBEq,↓DN,UP,DF,Qa,Qb,Qc,Qd,Qe,Qf,Qg,Qh,reduceCtorEq,↓reduceIte,Na,Nb,Nc,Nk,Nf,Ng,Nh,Za,Zb,Zc,TT, h5p, hp5]
  refine hK _ _ ?_;clear hK K
  refine wS fun K hK => ?_
  simp only [↓DN,UP,DF,Qa,Qb,Qc,Qd,Qe,Qf,Qg,Qh,reduceCtorEq,↓reduceIte,Na,Nb,Nc,Nk,Nf,Ng,Nh,Za,Zb,Zc,TT]
  refine acallk (eyeShort_set _ p q6.2 32 (by have := l6; omega) (by rw [AS.set_objs_ne _ hp5, AS.set_objs_same])) ?_
  rintro r s' ⟨rfl, rfl⟩
  rw [← e7]
  rw [AS.set_mid _ hp5]
  simp only [↓AXq_nil,↓AXq_cons,pval,DX,Nat.reduceBEq,↓DN,UP,DF,Qa,Qb,Qc,Qd,Qe,Qf,Qg,Qh,reduceCtorEq,↓reduceIte,Na,Nb,Nc,Nk,Nf,Ng,Nh,Za,Zb,Zc,TT, h5p, hp5]
  refine acallk (eyeShort_set _ p q7.2 32 (by have := l7; omega) (by rw [AS.set_objs_ne _ hp5, AS.set_objs_same])) ?_
  rintro r s' ⟨rfl, rfl⟩
  rw [← e8]
  rw [AS.set_mid _ hp5]
  simp only [↓AXq_nil,↓AXq_cons,pval,DX,Nat.reduceBEq,↓DN,UP,DF,Qa,Qb,Qc,Qd,Qe,Qf,Qg,Qh,reduceCtorEq,↓reduceIte,Na,Nb,Nc,Nk,Nf,Ng,Nh,Za,Zb,Zc,TT, h5p, hp5]
  refine hK _ _ ?_;clear hK K
  refine wS fun K hK => ?_
  simp only [↓DN,UP,DF,Qa,Qb,Qc,Qd,Qe,Qf,Qg,Qh,reduceCtorEq,↓reduceIte,Na,Nb,Nc,Nk,Nf,Ng,Nh,Za,Zb,Zc,TT]
  refine acallk (eyeShort_set _ p q8.2 48 (by have := l8; omega) (by rw [AS.set_objs_ne _ hp5, AS.set_objs_same])) ?_
  rintro r s' ⟨rfl, rfl⟩
  rw [← e9]
  rw [AS.set_mid _ hp5]
  simp only [↓AXq_nil,↓AXq_cons,pval,DX,Nat.reduceBEq,↓DN,UP,DF,Qa,Qb,Qc,Qd,Qe,Qf,Qg,Qh,reduceCtorEq,↓reduceIte,Na,Nb,Nc,Nk,Nf,Ng,Nh,Za,Zb,Zc,TT, h5p, hp5]
  refine hK _ _ ?_;clear hK K
  refine wK fun K hK => ?_
  refine wS fun K hK => ?_
  simp only [↓DN,UP,DF,Qa,Qb,Qc,Qd,Qe,Qf,Qg,Qh,reduceCtorEq,↓reduceIte,Na,Nb,Nc,Nk,Nf,Ng,Nh,Za,Zb,Zc,TT]
  refine acallk (eyeEnd_at _ p q9.2 (by rw [AS.set_objs_ne _ hp5, AS.set_objs_same])) ?_
  rintro r s' ⟨rfl, rfl⟩
  simp only [↓AXq_nil,↓AXq_cons,pval,DX,Nat.reduceBEq,↓DN,UP,DF,Qa,Qb,Qc,Qd,Qe,Qf,Qg,Qh,reduceCtorEq,↓reduceIte,Na,Nb,Nc,Nk,Nf,Ng,Nh,Za,Zb,Zc,TT]
  refine hK _ _ ?_;clear hK K
  by_cases he : eyeEnd q9.2 = 0
  · rw [he]
    refine wS fun K hK => ?_
    simp only [↓DN,UP,DF,Qa,Qb,Qc,Qd,Qe,Qf,Qg,Qh,reduceCtorEq,↓reduceIte,Na,Nb,Nc,Nk,Nf,Ng,Nh,Za,Zb,Zc,TT, i64_ne_false 0 rfl]
    refine hK _ _ ?_;clear hK K
    refine wC fun X Y hX hY => ?_
    simp only [↓DN,UP,DF,Qa,Qb,Qc,Qd,Qe,Qf,Qg,Qh,reduceCtorEq,↓reduceIte,Na,Nb,Nc,Nk,Nf,Ng,Nh,Za,Zb,Zc,TT, DB]
    refine hY ?_;clear hX hY X Y
    refine awp_skip ?_
    refine hK _ _ ?_;clear hK K
    refine wK fun K hK => ?_
    refine wS fun K hK => ?_
    simp only [↓DN,UP,DF,Qa,Qb,Qc,Qd,Qe,Qf,Qg,Qh,reduceCtorEq,↓reduceIte,Na,Nb,Nc,Nk,Nf,Ng,Nh,Za,Zb,Zc,TT, h5p, hp5]
    refine acallk (recRight_calls ⟨q1.1, q2.1, iconv .i64 (q3.1 : Int), iconv .i64 (q4.1 : Int), iconv .i64 (q5.1 : Int), q6.1, q7.1, q8.1, q9.1⟩ _) ?_
    rintro r s' ⟨rfl, rfl⟩
    by_cases hr : Rec.right ⟨q1.1, q2.1, iconv .i64 (q3.1 : Int), iconv .i64 (q4.1 : Int), iconv .i64 (q5.1 : Int), q6.1, q7.1, q8.1, q9.1⟩
    · rw [decide_eq_true hr]
      simp only [↓AXq_nil,↓AXq_cons,pval,DX,Nat.reduceBEq,↓DN,UP,DF,Qa,Qb,Qc,Qd,Qe,Qf,Qg,Qh,reduceCtorEq,↓reduceIte,Na,Nb,Nc,Nk,Nf,Ng,Nh,Za,Zb,Zc,TT]
      refine hK _ _ ?_;clear hK K
      refine wC fun X Y hX hY => ?_
      simp only [↓DN,UP,DF,Qa,Qb,Qc,Qd,Qe,Qf,Qg,Qh,reduceCtorEq,↓reduceIte,Na,Nb,Nc,Nk,Nf,Ng,Nh,Za,Zb,Zc,TT, DB]
      refine hY ?_;clear hX hY X Y
      refine awp_skip ?_
      refine hK _ _ ?_;clear hK K
      refine wS fun K hK => ?_
      simp only [↓DN,UP,DF,Qa,Qb,Qc,Qd,Qe,Qf,Qg,Qh,reduceCtorEq,↓reduceIte,Na,Nb,Nc,Nk,Nf,Ng,Nh,Za,Zb,Zc,TT, h5p, hp5, h52, h25, hp2, h2p]
      refine hK _ _ ?_;clear hK K
      refine awp_ret ?_
      refine aends_cell_tmp (o := o2) (off := 0) (by simp only [upd, Nc, ↓reduceIte]) (AS.set_objs_same _ _ _) (by rw [T.c137]; decide) (by simp only [↓DN,UP,DF,Qa,Qb,Qc,Qd,Qe,Qf,Qg,Qh,reduceCtorEq,↓reduceIte,Na,Nb,Nc,Nk,Nf,Ng,Nh,Za,Zb,Zc,TT]; rfl) ?_
      rw [show recRead b = (⟨q1.1, q2.1, iconv .i64 (q3.1 : Int), iconv .i64 (q4.1 : Int), iconv .i64 (q5.1 : Int), q6.1, q7.1, q8.1, q9.1⟩, 0) from by unfold recRead; rw [hrr]; exact (if_pos he).trans (if_pos hr)]
      exact ⟨_, s, AV.weak.refl _, AS.le_set (AS.le_set (AS.le_set (AS.le_set (AS.le.refl s) ho2 _) hp0 _) h50 _) ho2 _, rfl, rfl⟩
    · rw [decide_eq_false hr]
      simp only [↓AXq_nil,↓AXq_cons,pval,DX,Nat.reduceBEq,↓DN,UP,DF,Qa,Qb,Qc,Qd,Qe,Qf,Qg,Qh,reduceCtorEq,↓reduceIte,Na,Nb,Nc,Nk,Nf,Ng,Nh,Za,Zb,Zc,TT]
      refine hK _ _ ?_;clear hK K
      refine wC fun X Y hX hY => ?_
      simp only [↓DN,UP,DF,Qa,Qb,Qc,Qd,Qe,Qf,Qg,Qh,reduceCtorEq,↓reduceIte,Na,Nb,Nc,Nk,Nf,Ng,Nh,Za,Zb,Zc,TT, DB]
      refine hX ?_;clear hX hY X Y
      refine wS fun K hK => ?_
      simp only [↓DN,UP,DF,Qa,Qb,Qc,Qd,Qe,Qf,Qg,Qh,reduceCtorEq,↓reduceIte,Na,Nb,Nc,Nk,Nf,Ng,Nh,Za,Zb,Zc,TT, h5p, hp5, h52, h25, hp2, h2p]
      refine hK _ _ ?_;clear hK K
      refine awp_ret ?_
      refine aends_cell_tmp (o := o2) (off := 0) (by simp only [upd, Nc, ↓reduceIte]) (AS.set_objs_same _ _ _) (by rw [T.c137]; decide) (by simp only [↓DN,UP,DF,Qa,Qb,Qc,Qd,Qe,Qf,Qg,Qh,reduceCtorEq,↓reduceIte,Na,Nb,Nc,Nk,Nf,Ng,Nh,Za,Zb,Zc,TT]; rfl) ?_
      rw [show recRead b = (Rec.nought, 12) from by unfold recRead; rw [hrr]; exact (if_pos he).trans (if_neg hr)]
      exact ⟨_, s, AV.weak_tup2 nought_weak (AV.weak.refl _), AS.le_set (AS.le_set (AS.le_set (AS.le_set (AS.le.refl s) ho2 _) hp0 _) h50 _) ho2 _, rfl, rfl⟩
  · refine wS fun K hK => ?_
    simp only [↓DN,UP,DF,Qa,Qb,Qc,Qd,Qe,Qf,Qg,Qh,reduceCtorEq,↓reduceIte,Na,Nb,Nc,Nk,Nf,Ng,Nh,Za,Zb,Zc,TT, i64_ne_true _ he]
    refine hK _ _ ?_;clear hK K
    refine wC fun X Y hX hY => ?_
    simp only [↓DN,UP,DF,Qa,Qb,Qc,Qd,Qe,Qf,Qg,Qh,reduceCtorEq,↓reduceIte,Na,Nb,Nc,Nk,Nf,Ng,Nh,Za,Zb,Zc,TT, DB]
    refine hX ?_;clear hX hY X Y
    refine wS fun K hK => ?_
    simp only [↓DN,UP,DF,Qa,Qb,Qc,Qd,Qe,Qf,Qg,Qh,reduceCtorEq,↓reduceIte,Na,Nb,Nc,Nk,Nf,Ng,Nh,Za,Zb,Zc,TT, h5p, hp5, h52, h25, hp2, h2p]
    refine hK _ _ ?_;clear hK K
    refine awp_ret ?_
    refine aends_cell_tmp (o := o2) (off := 0) (by simp only [upd, Nc, ↓reduceIte]) (AS.set_objs_same _ _ _) (by rw [T.c137]; decide) (by simp only [↓DN,UP,DF,Qa,Qb,Qc,Qd,Qe,Qf,Qg,Qh,reduceCtorEq,↓reduceIte,Na,Nb,Nc,Nk,Nf,Ng,Nh,Za,Zb,Zc,TT]; rfl) ?_
    rw [show recRead b = (Rec.nought, eyeEnd q9.2) from by unfold recRead; rw [hrr]; exact if_neg he]
    exact ⟨_, s, AV.weak_tup2 nought_weak (AV.weak.refl _), AS.le_set (AS.le_set (AS.le_set (AS.le_set (AS.le.refl s) ho2 _) hp0 _) h50 _) ho2 _, rfl, rfl⟩

end Go.Proofs.YtoagkleecgngdaaGreatDoor


set_option autoImplicit false
namespace Go.Proofs.YtoagkleecgngdaaGreatDoor
open Go Go.AM Go.Proofs


variable {Γ : Nat → List AV}



set_option maxRecDepth 100000 in
set_option maxHeartbeats 4000000 in
theorem refRecWrite_calls (R : Rec) (hr : R.right) (s : AS) : ACalls Tryz.prog Γ 87 [.agg R.cells] s (fun r s' => r = .v (.string ⟨R.text.toArray⟩) ∧ s' = s) := by
  refine acalls_body Tryz.func87 rfl Tryz.ntmps87 Tryz.results87 (by simp) ?_
  unfold Rec.cells
  obtain ⟨k, g, e, t, u, y, tr, sc, wr⟩ := R
  obtain ⟨h1, h2, h3, h4, h5, h6, h7, h8, h9, h10, h11, h12, h13, h14⟩ := hr.facts
  simp only at h1 h2 h3 h4 h5 h6 h7 h8 h9 h10 h11 h12 h13 h14
  obtain ⟨k, rfl⟩ := Int.eq_ofNat_of_zero_le (show 0 ≤ k by omega)
  obtain ⟨e, rfl⟩ := Int.eq_ofNat_of_zero_le h5
  obtain ⟨t, rfl⟩ := Int.eq_ofNat_of_zero_le h7
  obtain ⟨u, rfl⟩ := Int.eq_ofNat_of_zero_le h9
  refine awp_reg_frz 1 (by simp [dsts]) ?_
  intro K hK
  simp only [↓AXq_nil,↓AXq_cons,pval,DX,Nat.reduceBEq,↓DN,UP,DF,Qa,Qb,Qc,Qd,Qe,Qf,Qg,Qh,reduceCtorEq,↓reduceIte,Na,Nb,Nc,Nk,Nf,Ng,Nh,Za,Zb,Zc,TT]
  intro o ho
  refine hK _ _ o _ (by simp only [upd, Nc, ↓reduceIte]) ho ?_
  clear hK K ho
  refine awp_drw_seq T.mixed [3, 7] (by kernel_rfl) ?_
  intro K hK
  simp only [↓AXq_nil,↓AXq_cons,pval,DX,Nat.reduceBEq,↓DN,UP,DF,Qa,Qb,Qc,Qd,Qe,Qf,Qg,Qh,reduceCtorEq,↓reduceIte,Na,Nb,Nc,Nk,Nf,Ng,Nh,Za,Zb,Zc,TT, u64_conv (show k < 2 ^ 62 by omega)]
  refine acallk (refNumber_calls k 1 (by omega) (by omega) s) ?_
  rintro r s' ⟨rfl, rfl⟩
  simp only [↓AXq_nil,↓AXq_cons,pval,DX,Nat.reduceBEq,↓DN,UP,DF,Qa,Qb,Qc,Qd,Qe,Qf,Qg,Qh,reduceCtorEq,↓reduceIte,Na,Nb,Nc,Nk,Nf,Ng,Nh,Za,Zb,Zc,TT]
  refine acallk (refText_calls g 1 (by omega) (by omega) _) ?_
  rintro r s' ⟨rfl, rfl⟩
  simp only [↓AXq_nil,↓AXq_cons,pval,DX,Nat.reduceBEq,↓DN,UP,DF,Qa,Qb,Qc,Qd,Qe,Qf,Qg,Qh,reduceCtorEq,↓reduceIte,Na,Nb,Nc,Nk,Nf,Ng,Nh,Za,Zb,Zc,TT, length_be, i64_room (show 1 + (1 + g.length) < 2 ^ 62 by omega)]
  refine hK _ _ ?_;clear hK K
  refine awp_drw_seq T.mixed [4, 9, 14] (by kernel_rfl) ?_
  intro K hK
  simp only [↓AXq_nil,↓AXq_cons,pval,DX,Nat.reduceBEq,↓DN,UP,DF,Qa,Qb,Qc,Qd,Qe,Qf,Qg,Qh,reduceCtorEq,↓reduceIte,Na,Nb,Nc,Nk,Nf,Ng,Nh,Za,Zb,Zc,TT, u64_conv (show e < 2 ^ 62 by omega)]
  refine acallk (refNumber_calls e 8 (by omega) (by omega) _) ?_
  rintro r s' ⟨rfl, rfl⟩
  simp only [↓AXq_nil,↓AXq_cons,pval,DX,Nat.reduceBEq,↓DN,UP,DF,Qa,Qb,Qc,Qd,Qe,Qf,Qg,Qh,reduceCtorEq,↓reduceIte,Na,Nb,Nc,Nk,Nf,Ng,Nh,Za,Zb,Zc,TT, length_be, i64_room (show 1 + (1 + g.length) + 8 < 2 ^ 62 by omega), u64_conv (show t < 2 ^ 62 by omega)]
  refine acallk (refNumber_calls t 8 (by omega) (by omega) _) ?_
  rintro r s' ⟨rfl, rfl⟩
  simp only [↓AXq_nil,↓AXq_cons,pval,DX,Nat.reduceBEq,↓DN,UP,DF,Qa,Qb,Qc,Qd,Qe,Qf,Qg,Qh,reduceCtorEq,↓reduceIte,Na,Nb,Nc,Nk,Nf,Ng,Nh,Za,Zb,Zc,TT, length_be, i64_room (show 1 + (1 + (g.length + 8)) + 8 < 2 ^ 62 by omega), u64_conv (show u < 2 ^ 62 by omega)]
  refine acallk (refNumber_calls u 8 (by omega) (by omega) _) ?_
  rintro r s' ⟨rfl, rfl⟩
  simp only [↓AXq_nil,↓AXq_cons,pval,DX,Nat.reduceBEq,↓DN,UP,DF,Qa,Qb,Qc,Qd,Qe,Qf,Qg,Qh,reduceCtorEq,↓reduceIte,Na,Nb,Nc,Nk,Nf,Ng,Nh,Za,Zb,Zc,TT, length_be, i64_room (show 1 + (1 + (g.length + 16)) + 8 < 2 ^ 62 by omega)]
  refine hK _ _ ?_;clear hK K
  refine awp_drw_seq T.mixed [4, 9, 14, 19] (by kernel_rfl) ?_
  intro K hK
  simp only [↓AXq_nil,↓AXq_cons,pval,DX,Nat.reduceBEq,↓DN,UP,DF,Qa,Qb,Qc,Qd,Qe,Qf,Qg,Qh,reduceCtorEq,↓reduceIte,Na,Nb,Nc,Nk,Nf,Ng,Nh,Za,Zb,Zc,TT]
  refine acallk (refText_calls y 2 (by omega) (by omega) _) ?_
  rintro r s' ⟨rfl, rfl⟩
  simp only [↓AXq_nil,↓AXq_cons,pval,DX,Nat.reduceBEq,↓DN,UP,DF,Qa,Qb,Qc,Qd,Qe,Qf,Qg,Qh,reduceCtorEq,↓reduceIte,Na,Nb,Nc,Nk,Nf,Ng,Nh,Za,Zb,Zc,TT, length_be, i64_room (show 1 + (1 + (g.length + 24)) + (2 + y.length) < 2 ^ 62 by omega)]
  refine acallk (refText_calls tr 1 (by omega) (by omega) _) ?_
  rintro r s' ⟨rfl, rfl⟩
  simp only [↓AXq_nil,↓AXq_cons,pval,DX,Nat.reduceBEq,↓DN,UP,DF,Qa,Qb,Qc,Qd,Qe,Qf,Qg,Qh,reduceCtorEq,↓reduceIte,Na,Nb,Nc,Nk,Nf,Ng,Nh,Za,Zb,Zc,TT, length_be, i64_room (show 1 + (1 + (g.length + (8 + (8 + (8 + (2 + y.length)))))) + (1 + tr.length) < 2 ^ 62 by omega)]
  refine acallk (refText_calls sc 1 (by omega) (by omega) _) ?_
  rintro r s' ⟨rfl, rfl⟩
  simp only [↓AXq_nil,↓AXq_cons,pval,DX,Nat.reduceBEq,↓DN,UP,DF,Qa,Qb,Qc,Qd,Qe,Qf,Qg,Qh,reduceCtorEq,↓reduceIte,Na,Nb,Nc,Nk,Nf,Ng,Nh,Za,Zb,Zc,TT, length_be, i64_room (show 1 + (1 + (g.length + (8 + (8 + (8 + (2 + (y.length + (1 + tr.length)))))))) + (1 + sc.length) < 2 ^ 62 by omega)]
  refine acallk (refText_calls wr 1 (by omega) (by omega) _) ?_
  rintro r s' ⟨rfl, rfl⟩
  simp only [↓AXq_nil,↓AXq_cons,pval,DX,Nat.reduceBEq,↓DN,UP,DF,Qa,Qb,Qc,Qd,Qe,Qf,Qg,Qh,reduceCtorEq,↓reduceIte,Na,Nb,Nc,Nk,Nf,Ng,Nh,Za,Zb,Zc,TT, length_be, i64_room (show 1 + (1 + (g.length + (8 + (8 + (8 + (2 + (y.length + (1 + (tr.length + (1 + sc.length)))))))))) + (1 + wr.length) < 2 ^ 62 by omega)]
  refine hK _ _ ?_;clear hK K
  refine awp_ret ?_
  simp only [retQ, AEnds, aresL, ares, List.toList_toArray, ↓upd_same]; try simp only [UP,DF,Nc,↓reduceIte,DT]
  refine ⟨_, _, AV.weak.refl _, AS.le.refl _, ?_, rfl⟩
  simp [Rec.text]

set_option maxRecDepth 100000 in
set_option maxHeartbeats 4000000 in
theorem refRecRead_calls (b : List UInt8) (hb : b.length ≤ 2 ^ 44) (s : AS) : ACalls Tryz.prog Γ 92 [.v (.string ⟨b.toArray⟩)] s (fun r s' => r = .tup [.agg (recRead b).1.cells, .v (.int .i64 (recRead b).2)] ∧ s' = s) := by
  refine acalls_body Tryz.func92 rfl Tryz.ntmps92 Tryz.results92 (by simp) ?_
  obtain ⟨q1, e1⟩ : ∃ q, q = eyeNum 1 (b, 0) := ⟨_, rfl⟩
  obtain ⟨q2, e2⟩ : ∃ q, q = eyeText 1 16 q1.2 := ⟨_, rfl⟩
  obtain ⟨q3, e3⟩ : ∃ q, q = eyeNum 8 q2.2 := ⟨_, rfl⟩
  obtain ⟨q4, e4⟩ : ∃ q, q = eyeNum 8 q3.2 := ⟨_, rfl⟩
  obtain ⟨q5, e5⟩ : ∃ q, q = eyeNum 8 q4.2 := ⟨_, rfl⟩
  obtain ⟨q6, e6⟩ : ∃ q, q = eyeText 2 60000 q5.2 := ⟨_, rfl⟩
  obtain ⟨q7, e7⟩ : ∃ q, q = eyeText 1 32 q6.2 := ⟨_, rfl⟩
  obtain ⟨q8, e8⟩ : ∃ q, q = eyeText 1 32 q7.2 := ⟨_, rfl⟩
  obtain ⟨q9, e9⟩ : ∃ q, q = eyeText 1 48 q8.2 := ⟨_, rfl⟩
  have l1 : q1.2.1.length ≤ 2 ^ 44 := by rw [e1]; exact Nat.le_trans (eyeNum_len _ _) hb
  have l2 : q2.2.1.length ≤ 2 ^ 44 := by rw [e2]; exact Nat.le_trans (eyeText_len _ _ _).2 l1
  have l3 : q3.2.1.length ≤ 2 ^ 44 := by rw [e3]; exact Nat.le_trans (eyeNum_len _ _) l2
  have l4 : q4.2.1.length ≤ 2 ^ 44 := by rw [e4]; exact Nat.le_trans (eyeNum_len _ _) l3
  have l5 : q5.2.1.length ≤ 2 ^ 44 := by rw [e5]; exact Nat.le_trans (eyeNum_len _ _) l4
  have l6 : q6.2.1.length ≤ 2 ^ 44 := by rw [e6]; exact Nat.le_trans (eyeText_len _ _ _).2 l5
  have l7 : q7.2.1.length ≤ 2 ^ 44 := by rw [e7]; exact Nat.le_trans (eyeText_len _ _ _).2 l6
  have l8 : q8.2.1.length ≤ 2 ^ 44 := by rw [e8]; exact Nat.le_trans (eyeText_len _ _ _).2 l7
  have l9 : q9.2.1.length ≤ 2 ^ 44 := by rw [e9]; exact Nat.le_trans (eyeText_len _ _ _).2 l8
  have k1 : q1.1 < 256 := by rw [e1]; exact Nat.lt_of_lt_of_le (eyeNum_lt 1 _) (by decide)
  have hrr : readRec b = (⟨q1.1, q2.1, iconv .i64 (q3.1 : Int), iconv .i64 (q4.1 : Int), iconv .i64 (q5.1 : Int), q6.1, q7.1, q8.1, q9.1⟩, q9.2) := by subst e9 e8 e7 e6 e5 e4 e3 e2 e1; rfl
  refine wS fun K hK => ?_
  simp only [↓DN,UP,DF,Qa,Qb,Qc,Qd,Qe,Qf,Qg,Qh,reduceCtorEq,↓reduceIte,Na,Nb,Nc,Nk,Nf,Ng,Nh,Za,Zb,Zc,TT]
  intro o2 ho2
  refine hK _ _ ?_;clear hK K
  refine wS fun K hK => ?_
  simp only [↓DN,UP,DF,Qa,Qb,Qc,Qd,Qe,Qf,Qg,Qh,reduceCtorEq,↓reduceIte,Na,Nb,Nc,Nk,Nf,Ng,Nh,Za,Zb,Zc,TT]
  intro p hp
  have hp2 : p ≠ o2 := by
    rintro rfl
    simp at hp
  have hp0 : s.objs p = none := by simpa [hp2] using hp
  refine hK _ _ ?_;clear hK K
  refine wS fun K hK => ?_
  simp only [↓DN,UP,DF,Qa,Qb,Qc,Qd,Qe,Qf,Qg,Qh,reduceCtorEq,↓reduceIte,Na,Nb,Nc,Nk,Nf,Ng,Nh,Za,Zb,Zc,TT]
  intro o5 ho5
  have h5p : o5 ≠ p := by
    rintro rfl
    simp at ho5
  have h52 : o5 ≠ o2 := by
    rintro rfl
    simp [hp2.symm] at ho5
  have h50 : s.objs o5 = none := by simpa [h5p, h52] using ho5
  have hp5 := h5p.symm
  have h25 := h52.symm
  have h2p := hp2.symm
  refine hK _ _ ?_;clear hK K
  refine wS fun K hK => ?_
  simp only [↓DN,UP,DF,Qa,Qb,Qc,Qd,Qe,Qf,Qg,Qh,reduceCtorEq,↓reduceIte,Na,Nb,Nc,Nk,Nf,Ng,Nh,Za,Zb,Zc,TT]
  refine acallk (reyeNumber_set _ p (b, 0) 1 (by omega) (by simp only; omega) (by rw [AS.set_objs_ne _ hp5, AS.set_objs_same])) ?_
  rintro r s' ⟨rfl, rfl⟩
  rw [← e1, AS.set_mid _ hp5]
  simp only [↓AXq_nil,↓AXq_cons,pval,DX,Nat.reduceBEq,↓DN,UP,DF,Qa,Qb,Qc,Qd,Qe,Qf,Qg,Qh,reduceCtorEq,↓reduceIte,Na,Nb,Nc,Nk,Nf,Ng,Nh,Za,Zb,Zc,TT, h5p, hp5, i64_conv (show q1.1 < 2 ^ 62 by omega)]
  refine hK _ _ ?_;clear hK K
  refine wS fun K hK => ?_
  simp only [↓DN,UP,DF,Qa,Qb,Qc,Qd,Qe,Qf,Qg,Qh,reduceCtorEq,↓reduceIte,Na,Nb,Nc,Nk,Nf,Ng,Nh,Za,Zb,Zc,TT]
  refine acallk (reyeText_set _ p q1.2 1 16 (by omega) (by have := l1; omega) (by rw [AS.set_objs_ne _ hp5, AS.set_objs_same])) ?_
  rintro r s' ⟨rfl, rfl⟩
  rw [← e2, AS.set_mid _ hp5]
  simp only [↓AXq_nil,↓AXq_cons,pval,DX,Nat.reduceBEq,↓DN,UP,DF,Qa,Qb,Qc,Qd,Qe,Qf,Qg,Qh,reduceCtorEq,↓reduceIte,Na,Nb,Nc,Nk,Nf,Ng,Nh,Za,Zb,Zc,TT, h5p, hp5]
  refine hK _ _ ?_;clear hK K
  refine wS fun K hK => ?_
  simp only [↓DN,UP,DF,Qa,Qb,Qc,Qd,Qe,Qf,Qg,Qh,reduceCtorEq,↓reduceIte,Na,Nb,Nc,Nk,Nf,Ng,Nh,Za,Zb,Zc,TT]
  refine acallk (reyeNumber_set _ p q2.2 8 (by omega) (by have := l2; omega) (by rw [AS.set_objs_ne _ hp5, AS.set_objs_same])) ?_
  rintro r s' ⟨rfl, rfl⟩
  rw [← e3, AS.set_mid _ hp5]
  simp only [↓AXq_nil,↓AXq_cons,pval,DX,Nat.reduceBEq,↓DN,UP,DF,Qa,Qb,Qc,Qd,Qe,Qf,Qg,Qh,reduceCtorEq,↓reduceIte,Na,Nb,Nc,Nk,Nf,Ng,Nh,Za,Zb,Zc,TT, h5p, hp5]
  refine hK _ _ ?_;clear hK K
  refine wS fun K hK => ?_
  simp only [↓DN,UP,DF,Qa,Qb,Qc,Qd,Qe,Qf,Qg,Qh,reduceCtorEq,↓reduceIte,Na,Nb,Nc,Nk,Nf,Ng,Nh,Za,Zb,Zc,TT]
  refine acallk (reyeNumber_set _ p q3.2 8 (by omega) (by have := l3; omega) (by rw [AS.set_objs_ne _ hp5, AS.set_objs_same])) ?_
  rintro r s' ⟨rfl, rfl⟩
  rw [← e4, AS.set_mid _ hp5]
  simp only [↓AXq_nil,↓AXq_cons,pval,DX,Nat.reduceBEq,↓DN,UP,DF,Qa,Qb,Qc,Qd,Qe,Qf,Qg,Qh,reduceCtorEq,↓reduceIte,Na,Nb,Nc,Nk,Nf,Ng,Nh,Za,Zb,Zc,TT, h5p, hp5]
  refine hK _ _ ?_;clear hK K
  refine wS fun K hK => ?_
  simp only [↓DN,UP,DF,Qa,Qb,Qc,Qd,Qe,Qf,Qg,Qh,reduceCtorEq,↓reduceIte,Na,Nb,Nc,Nk,Nf,Ng,Nh,Za,Zb,Zc,TT]
  refine acallk (reyeNumber_set _ p q4.2 8 (by omega) (by have := l4; omega) (by rw [AS.set_objs_ne _ hp5, AS.set_objs_same])) ?_
  rintro r s' ⟨rfl, rfl⟩
  rw [← e5, AS.set_mid _ hp5]
  simp only [↓AXq_nil,↓AXq_cons,pval,DX,Nat.reduceBEq,↓DN,UP,DF,Qa,Qb,Qc,Qd,Qe,Qf,Qg,Qh,reduceCtorEq,↓reduceIte,Na,Nb,Nc,Nk,Nf,Ng,Nh,Za,Zb,Zc,TT, h5p, hp5]
  refine hK _ _ ?_;clear hK K
  refine wS fun K hK => ?_
  simp only [↓DN,UP,DF,Qa,Qb,Qc,Qd,Qe,Qf,Qg,Qh,reduceCtorEq,↓reduceIte,Na,Nb,Nc,Nk,Nf,Ng,Nh,Za,Zb,Zc,TT]
  refine acallk (reyeText_set _ p q5.2 2 60000 (by omega) (by have := l5; omega) (by rw [AS.set_objs_ne _ hp5, AS.set_objs_same])) ?_
  rintro r s' ⟨rfl, rfl⟩
  rw [← e6, AS.set_mid _ hp5]
  simp only [↓AXq_nil,↓AXq_cons,pval,DX,Nat.reduceBEq,↓DN,UP,DF,Qa,Qb,Qc,Qd,Qe,Qf,Qg,Qh,reduceCtorEq,↓reduceIte,Na,Nb,Nc,Nk,Nf,Ng,Nh,Za,Zb,Zc,TT, h5p, hp5]
  refine hK _ _ ?_;clear hK K
  refine wS fun K hK => ?_
  simp only [↓DN,UP,DF,Qa,Qb,Qc,Qd,Qe,Qf,Qg,Qh,reduceCtorEq,↓reduceIte,Na,Nb,Nc,Nk,Nf,Ng,Nh,Za,Zb,Zc,TT]
  refine acallk (reyeText_set _ p q6.2 1 32 (by omega) (by have := l6; omega) (by rw [AS.set_objs_ne _ hp5, AS.set_objs_same])) ?_
  rintro r s' ⟨rfl, rfl⟩
  rw [← e7, AS.set_mid _ hp5]
  simp only [↓AXq_nil,↓AXq_cons,pval,DX,Nat.reduceBEq,↓DN,UP,DF,Qa,Qb,Qc,Qd,Qe,Qf,Qg,Qh,reduceCtorEq,↓reduceIte,Na,Nb,Nc,Nk,Nf,Ng,Nh,Za,Zb,Zc,TT, h5p, hp5]
  refine hK _ _ ?_;clear hK K
  refine wS fun K hK => ?_
  simp only [↓DN,UP,DF,Qa,Qb,Qc,Qd,Qe,Qf,Qg,Qh,reduceCtorEq,↓reduceIte,Na,Nb,Nc,Nk,Nf,Ng,Nh,Za,Zb,Zc,TT]
  refine acallk (reyeText_set _ p q7.2 1 32 (by omega) (by have := l7; omega) (by rw [AS.set_objs_ne _ hp5, AS.set_objs_same])) ?_
  rintro r s' ⟨rfl, rfl⟩
  rw [← e8, AS.set_mid _ hp5]
  simp only [↓AXq_nil,↓AXq_cons,pval,DX,Nat.reduceBEq,↓DN,UP,DF,Qa,Qb,Qc,Qd,Qe,Qf,Qg,Qh,reduceCtorEq,↓reduceIte,Na,Nb,Nc,Nk,Nf,Ng,Nh,Za,Zb,Zc,TT, h5p, hp5]
  refine hK _ _ ?_;clear hK K
  refine wS fun K hK => ?_
  simp only [↓DN,UP,DF,Qa,Qb,Qc,Qd,Qe,Qf,Qg,Qh,reduceCtorEq,↓reduceIte,Na,Nb,Nc,Nk,Nf,Ng,Nh,Za,Zb,Zc,TT]
  refine acallk (reyeText_set _ p q8.2 1 48 (by omega) (by have := l8; omega) (by rw [AS.set_objs_ne _ hp5, AS.set_objs_same])) ?_
  rintro r s' ⟨rfl, rfl⟩
  rw [← e9, AS.set_mid _ hp5]
  simp only [↓AXq_nil,↓AXq_cons,pval,DX,Nat.reduceBEq,↓DN,UP,DF,Qa,Qb,Qc,Qd,Qe,Qf,Qg,Qh,reduceCtorEq,↓reduceIte,Na,Nb,Nc,Nk,Nf,Ng,Nh,Za,Zb,Zc,TT, h5p, hp5]
  refine hK _ _ ?_;clear hK K
  refine wK fun K hK => ?_
  refine wS fun K hK => ?_
  simp only [↓DN,UP,DF,Qa,Qb,Qc,Qd,Qe,Qf,Qg,Qh,reduceCtorEq,↓reduceIte,Na,Nb,Nc,Nk,Nf,Ng,Nh,Za,Zb,Zc,TT]
  refine acallk (reyeEnd_at _ p q9.2 (by rw [AS.set_objs_ne _ hp5, AS.set_objs_same])) ?_
  rintro r s' ⟨rfl, rfl⟩
  by_cases he : eyeEnd q9.2 = 0
  · rw [he]
    simp only [↓AXq_nil,↓AXq_cons,pval,DX,Nat.reduceBEq,↓DN,UP,DF,Qa,Qb,Qc,Qd,Qe,Qf,Qg,Qh,reduceCtorEq,↓reduceIte,Na,Nb,Nc,Nk,Nf,Ng,Nh,Za,Zb,Zc,TT, i64_ne_false 0 rfl]
    refine hK _ _ ?_;clear hK K
    refine wC fun X Y hX hY => ?_
    simp only [↓DN,UP,DF,Qa,Qb,Qc,Qd,Qe,Qf,Qg,Qh,reduceCtorEq,↓reduceIte,Na,Nb,Nc,Nk,Nf,Ng,Nh,Za,Zb,Zc,TT, DB]
    refine hY ?_;clear hX hY X Y
    refine awp_skip ?_
    refine hK _ _ ?_;clear hK K
    refine wK fun K hK => ?_
    refine wS fun K hK => ?_
    simp only [↓DN,UP,DF,Qa,Qb,Qc,Qd,Qe,Qf,Qg,Qh,reduceCtorEq,↓reduceIte,Na,Nb,Nc,Nk,Nf,Ng,Nh,Za,Zb,Zc,TT, h5p, hp5]
    refine acallk (ACalls.weaks (.cons rec_weak .nil) (refRight12_calls ⟨q1.1, q2.1, iconv .i64 (q3.1 : Int), iconv .i64 (q4.1 : Int), iconv .i64 (q5.1 : Int), q6.1, q7.1, q8.1, q9.1⟩ _)) ?_
    rintro r s' ⟨rfl, rfl⟩
    by_cases hr : Rec.right ⟨q1.1, q2.1, iconv .i64 (q3.1 : Int), iconv .i64 (q4.1 : Int), iconv .i64 (q5.1 : Int), q6.1, q7.1, q8.1, q9.1⟩
    · rw [decide_eq_true hr]
      simp only [↓AXq_nil,↓AXq_cons,pval,DX,Nat.reduceBEq,↓DN,UP,DF,Qa,Qb,Qc,Qd,Qe,Qf,Qg,Qh,reduceCtorEq,↓reduceIte,Na,Nb,Nc,Nk,Nf,Ng,Nh,Za,Zb,Zc,TT]
      refine hK _ _ ?_;clear hK K
      refine wC fun X Y hX hY => ?_
      simp only [↓DN,UP,DF,Qa,Qb,Qc,Qd,Qe,Qf,Qg,Qh,reduceCtorEq,↓reduceIte,Na,Nb,Nc,Nk,Nf,Ng,Nh,Za,Zb,Zc,TT, DB]
      refine hY ?_;clear hX hY X Y
      refine awp_skip ?_
      refine hK _ _ ?_;clear hK K
      refine wS fun K hK => ?_
      simp only [↓DN,UP,DF,Qa,Qb,Qc,Qd,Qe,Qf,Qg,Qh,reduceCtorEq,↓reduceIte,Na,Nb,Nc,Nk,Nf,Ng,Nh,Za,Zb,Zc,TT, h5p, hp5, h52, h25, hp2, h2p]
      refine hK _ _ ?_;clear hK K
      refine awp_ret ?_
      refine aends_cell_tmp (o := o2) (off := 0) (by simp only [upd, Nc, ↓reduceIte]) (AS.set_objs_same _ _ _) (by rw [T.c137]; decide) (by simp only [↓DN,UP,DF,Qa,Qb,Qc,Qd,Qe,Qf,Qg,Qh,reduceCtorEq,↓reduceIte,Na,Nb,Nc,Nk,Nf,Ng,Nh,Za,Zb,Zc,TT]; rfl) ?_
      rw [show recRead b = (⟨q1.1, q2.1, iconv .i64 (q3.1 : Int), iconv .i64 (q4.1 : Int), iconv .i64 (q5.1 : Int), q6.1, q7.1, q8.1, q9.1⟩, 0) from by unfold recRead; rw [hrr]; exact (if_pos he).trans (if_pos hr)]
      exact ⟨_, s, AV.weak_tup2 rec_weak (AV.weak.refl _), AS.le_set (AS.le_set (AS.le_set (AS.le_set (AS.le.refl s) ho2 _) hp0 _) h50 _) ho2 _, rfl, rfl⟩
    · rw [decide_eq_false hr]
      simp only [↓AXq_nil,↓AXq_cons,pval,DX,Nat.reduceBEq,↓DN,UP,DF,Qa,Qb,Qc,Qd,Qe,Qf,Qg,Qh,reduceCtorEq,↓reduceIte,Na,Nb,Nc,Nk,Nf,Ng,Nh,Za,Zb,Zc,TT]
      refine hK _ _ ?_;clear hK K
      refine wC fun X Y hX hY => ?_
      simp only [↓DN,UP,DF,Qa,Qb,Qc,Qd,Qe,Qf,Qg,Qh,reduceCtorEq,↓reduceIte,Na,Nb,Nc,Nk,Nf,Ng,Nh,Za,Zb,Zc,TT, DB]
      refine hX ?_;clear hX hY X Y
      refine wS fun K hK => ?_
      simp only [↓DN,UP,DF,Qa,Qb,Qc,Qd,Qe,Qf,Qg,Qh,reduceCtorEq,↓reduceIte,Na,Nb,Nc,Nk,Nf,Ng,Nh,Za,Zb,Zc,TT, h5p, hp5, h52, h25, hp2, h2p]
      refine hK _ _ ?_;clear hK K
      refine awp_ret ?_
      refine aends_cell_tmp (o := o2) (off := 0) (by simp only [upd, Nc, ↓reduceIte]) (AS.set_objs_same _ _ _) (by rw [T.c137]; decide) (by simp only [↓DN,UP,DF,Qa,Qb,Qc,Qd,Qe,Qf,Qg,Qh,reduceCtorEq,↓reduceIte,Na,Nb,Nc,Nk,Nf,Ng,Nh,Za,Zb,Zc,TT]; rfl) ?_
      rw [show recRead b = (Rec.nought, 12) from by unfold recRead; rw [hrr]; exact (if_pos he).trans (if_neg hr)]
      exact ⟨_, s, AV.weak_tup2 nought_weak (AV.weak.refl _), AS.le_set (AS.le_set (AS.le_set (AS.le_set (AS.le.refl s) ho2 _) hp0 _) h50 _) ho2 _, rfl, rfl⟩
  · simp only [↓AXq_nil,↓AXq_cons,pval,DX,Nat.reduceBEq,↓DN,UP,DF,Qa,Qb,Qc,Qd,Qe,Qf,Qg,Qh,reduceCtorEq,↓reduceIte,Na,Nb,Nc,Nk,Nf,Ng,Nh,Za,Zb,Zc,TT, i64_ne_true _ he]
    refine hK _ _ ?_;clear hK K
    refine wC fun X Y hX hY => ?_
    simp only [↓DN,UP,DF,Qa,Qb,Qc,Qd,Qe,Qf,Qg,Qh,reduceCtorEq,↓reduceIte,Na,Nb,Nc,Nk,Nf,Ng,Nh,Za,Zb,Zc,TT, DB]
    refine hX ?_;clear hX hY X Y
    refine wS fun K hK => ?_
    simp only [↓DN,UP,DF,Qa,Qb,Qc,Qd,Qe,Qf,Qg,Qh,reduceCtorEq,↓reduceIte,Na,Nb,Nc,Nk,Nf,Ng,Nh,Za,Zb,Zc,TT, h5p, hp5, h52, h25, hp2, h2p]
    refine acallk (reyeEnd_at _ p q9.2 (by rw [AS.set_objs_ne _ hp5, AS.set_objs_same])) ?_
    rintro r s' ⟨rfl, rfl⟩
    simp only [↓AXq_nil,↓AXq_cons,pval,DX,Nat.reduceBEq,↓DN,UP,DF,Qa,Qb,Qc,Qd,Qe,Qf,Qg,Qh,reduceCtorEq,↓reduceIte,Na,Nb,Nc,Nk,Nf,Ng,Nh,Za,Zb,Zc,TT, h5p, hp5, h52, h25, hp2, h2p]
    refine hK _ _ ?_;clear hK K
    refine awp_ret ?_
    refine aends_cell_tmp (o := o2) (off := 0) (by simp only [upd, Nc, ↓reduceIte]) (AS.set_objs_same _ _ _) (by rw [T.c137]; decide) (by simp only [↓DN,UP,DF,Qa,Qb,Qc,Qd,Qe,Qf,Qg,Qh,reduceCtorEq,↓reduceIte,Na,Nb,Nc,Nk,Nf,Ng,Nh,Za,Zb,Zc,TT]; rfl) ?_
    rw [show recRead b = (Rec.nought, eyeEnd q9.2) from by unfold recRead; rw [hrr]; exact if_neg he]
    exact ⟨_, s, AV.weak_tup2 nought_weak (AV.weak.refl _), AS.le_set (AS.le_set (AS.le_set (AS.le_set (AS.le.refl s) ho2 _) hp0 _) h50 _) ho2 _, rfl, rfl⟩

end Go.Proofs.YtoagkleecgngdaaGreatDoor


set_option autoImplicit false
namespace Go.AM
open Go

/-! ### Slices of whole numbers; nodes -/
def intC (n : Int) : AV := .v (.int .i64 n)
def intsV (l : List Int) (sp : Sp) : AV := .sl 1 l.length (l.map intC) sp
theorem IsTy.ints {avs : List AV} (h : IsTy (.slice 1 tyI) avs) : ∃ l : List Int, avs = [intsV l .any] := by
  obtain ⟨els, rfl, _, hall⟩ := IsTy.rows h
  have key : ∀ els : List (List AV), (∀ el ∈ els, el.length = 1 ∧ IsTy tyI el) → ∃ l : List Int, l.length = els.length ∧ els.flatten = l.map intC := by
    intro els
    induction els with
    | nil => intro _; exact ⟨[], rfl, rfl⟩
    | cons e els ih =>
      intro h
      obtain ⟨l, h1, h2⟩ := ih (fun el hel => h el (by simp [hel]))
      obtain ⟨_, t⟩ := h e (by simp)
      obtain ⟨n, rfl, _⟩ := isTy_int t
      exact ⟨n :: l, by simp [h1], by simp [h2, intC]⟩
  obtain ⟨l, h1, h2⟩ := key els hall
  exact ⟨l, by rw [← h1, h2]; rfl⟩

structure NodeV where
  kind : Int
  name : List UInt8
  key : Nat
  parent : List UInt8
  unm : List Int
  deriving DecidableEq
def NodeV.cells (n : NodeV) : List AV := [.v (.int .i64 n.kind), bytesV n.name .any, .v (.int .u64 n.key), bytesV n.parent .any, intsV n.unm .any]
def NodeV.nought : NodeV := ⟨0, [], 0, [], []⟩

theorem IsTy.node {avs : List AV} (h : IsTy (.struct (.cons tyI (.cons tyB (.cons (.int .u64) (.cons tyB (.cons (.slice 1 tyI) .nil)))))) avs) : ∃ N : NodeV, avs = N.cells ∧ N.key < 2 ^ 64 := by
  obtain ⟨x1, y1, rfl, t1, h⟩ := isF_cons (isTy_struct h)
  obtain ⟨x2, y2, rfl, t2, h⟩ := isF_cons h
  obtain ⟨x3, y3, rfl, t3, h⟩ := isF_cons h
  obtain ⟨x4, y4, rfl, t4, h⟩ := isF_cons h
  obtain ⟨x5, y5, rfl, t5, h⟩ := isF_cons h
  obtain rfl := isF_nil h
  obtain ⟨n1, rfl, _⟩ := isTy_int t1
  obtain ⟨l2, rfl, _⟩ := t2.bytes
  obtain ⟨n3, rfl, w3⟩ := isTy_int t3
  obtain ⟨m3, rfl, h3⟩ := nat_u64 w3
  obtain ⟨l4, rfl, _⟩ := t4.bytes
  obtain ⟨l5, rfl⟩ := t5.ints
  exact ⟨⟨n1, l2, m3, l4, l5⟩, rfl, h3⟩
def okAt (l : List Int) (i : Nat) : Prop := 0 ≤ l.getD i 0 ∧ l.getD i 0 < 32 ∧ (0 < i → l.getD (i - 1) 0 < l.getD i 0)
instance decOkAt (l : List Int) (i : Nat) : Decidable (okAt l i) := by unfold okAt; infer_instance
def Rising (l : List Int) : Prop := ∀ i, i < l.length → okAt l i
instance decRising (l : List Int) : Decidable (Rising l) := by unfold Rising; infer_instance
def NodeV.held (N : NodeV) : Prop := 2 ≤ N.key ∧ N.key ≤ 2305843009213693949 ∧ (N.parent.length = 0 ∨ N.parent.length = 32)
instance decNodeHeld (N : NodeV) : Decidable N.held := by unfold NodeV.held; infer_instance
def NodeV.right (N : NodeV) : Prop :=
  if N.kind = 0 then N = NodeV.nought
  else if N.kind = 1 then (1 ≤ N.name.length ∧ N.name.length ≤ 16 ∧ N.held ∧ N.unm.length = 0)
  else if N.kind = 2 then (N.name.length = 0 ∧ N.held ∧ Rising N.unm)
  else False
instance decNodeRight (N : NodeV) : Decidable N.right := by unfold NodeV.right; infer_instance
theorem right_one {N : NodeV} (h : N.kind = 1) : N.right ↔ (1 ≤ N.name.length ∧ N.name.length ≤ 16 ∧ N.held ∧ N.unm.length = 0) := by unfold NodeV.right; rw [if_neg (by omega), if_pos h]
theorem right_two {N : NodeV} (h : N.kind = 2) : N.right ↔ (N.name.length = 0 ∧ N.held ∧ Rising N.unm) := by unfold NodeV.right; rw [if_neg (by omega), if_neg (by omega), if_pos h]
end Go.AM


set_option autoImplicit false
namespace Go.AM
open Go

/-! ### Pens: octets put, whether bad or not -/
theorem penNum_raw (k n : Nat) (st : List UInt8 × Bool) : penNum k n st = penRaw (be k n) st := rfl
theorem penSmall_raw {k n : Nat} (h : n < 256 ^ k) (st : List UInt8 × Bool) : penSmall k (n : Int) st = penRaw (be k n) st := by
  have e : (256 : Nat) ^ k = 2 ^ (8 * k) := by rw [Nat.pow_mul]
  have hh : (n : Int) < 2 ^ (8 * k) := by
    rw [e] at h
    exact_mod_cast h
  unfold penSmall
  rw [if_pos ⟨by omega, hh⟩]
  simp only [Int.toNat_natCast, penNum_raw]
theorem penRaw_raw (a b : List UInt8) (st : List UInt8 × Bool) : penRaw a (penRaw b st) = penRaw (b ++ a) st := by
  unfold penRaw
  by_cases h : st.2 = true
  · simp [h]
  · simp [h]
theorem penText_raw {k : Nat} {m : List UInt8} (h : m.length < 256 ^ k) (st : List UInt8 × Bool) : penText k m st = penRaw (be k m.length ++ m) st := by
  unfold penText
  rw [penSmall_raw h, penRaw_raw]
/-! ### A node's octets, and back -/
def intsText (l : List Int) : List UInt8 := (l.map fun x => be 1 x.toNat).flatten
def NodeV.text (N : NodeV) : List UInt8 :=
  if N.kind = 0 then be 1 0
  else if N.kind = 1 then be 1 1 ++ (be 1 N.name.length ++ N.name) ++ be 8 N.key ++ (be 1 N.parent.length ++ N.parent)
  else be 1 2 ++ be 8 N.key ++ (be 1 N.parent.length ++ N.parent) ++ be 1 N.unm.length ++ intsText N.unm

theorem rising_at {l : List Int} (h : Rising l) : ∀ i, i < l.length → (i : Int) ≤ l.getD i 0
  | 0, k => (h 0 k).1
  | i + 1, k => by
    have := rising_at h i (by omega)
    have h3 := (h (i + 1) k).2.2 (by omega)
    simp only [Nat.add_sub_cancel] at h3
    omega
theorem rising_len {l : List Int} (h : Rising l) : l.length ≤ 32 := by
  by_cases k : l.length = 0
  · omega
  · have h1 := rising_at h (l.length - 1) (by omega)
    have h2 := (h (l.length - 1) (by omega)).2.1
    omega
theorem intsText_len : ∀ (l : List Int), (intsText l).length = l.length
  | [] => rfl
  | x :: l => by
    have := intsText_len l
    simp only [intsText, List.map_cons, List.flatten_cons, List.length_append, length_be, List.length_cons] at *
    omega
theorem nought_right : NodeV.nought.right := by decide
theorem node_kind {N : NodeV} (h : N.right) : N.kind = 0 ∨ N.kind = 1 ∨ N.kind = 2 := by
  unfold NodeV.right at h
  split at h
  · left; assumption
  · split at h
    · right; left; assumption
    · split at h
      · right; right; assumption
      · exact h.elim

theorem NodeV.text_len {N : NodeV} (h : N.right) : N.text.length ≤ 100 := by
  obtain ⟨k, m, y, p, u⟩ := N
  rcases node_kind h with hk | hk | hk
  · simp only at hk
    simp [NodeV.text, hk]
  · obtain ⟨h1, h2, ⟨h3, h4, h5⟩, h6⟩ := (right_one hk).1 h
    simp only at hk h1 h2 h3 h4 h5 h6
    simp [NodeV.text, hk]
    omega
  · obtain ⟨h1, ⟨h3, h4, h5⟩, h6⟩ := (right_two hk).1 h
    simp only at hk h1 h3 h4 h5 h6
    have hu := rising_len h6
    simp [NodeV.text, hk, intsText_len]
    omega

/-! ### A reader: an eye at p, the result at o2, the variable at o3 -/
structure RdS (s s1 : AS) (p o2 o3 : Nat) (ce z cs : List AV) : Prop where
  le : (s.drop p).le s1
  eye : s1.objs p = some ce
  res : s1.objs o2 = some z
  var : s1.objs o3 = some cs
  n2 : s.objs o2 = none
  n3 : s.objs o3 = none
  p2 : p ≠ o2
  p3 : p ≠ o3
  d : o2 ≠ o3
theorem RdS.gain {s s1 : AS} {p o2 o3 : Nat} {ce z cs : List AV} (h : RdS s s1 p o2 o3 ce z cs) {t : Nat} (ht : s.own t = none) (e : Nat) : RdS s (s1.gain t e) p o2 o3 ce z cs :=
  ⟨AS.le_gain h.le (by simpa [AS.drop] using ht) e, h.eye, h.res, h.var, h.n2, h.n3, h.p2, h.p3, h.d⟩
theorem RdS.out {s s1 : AS} {p o2 o3 : Nat} {ce z cs : List AV} (h : RdS s s1 p o2 o3 ce z cs) : (s.set p ce).le s1 := AS.set_le_of h.le h.eye
theorem RdS.own_none {s s1 : AS} {p o2 o3 : Nat} {ce z cs : List AV} (h : RdS s s1 p o2 o3 ce z cs) {t : Nat} (ht : s1.own t = none) : s.own t = none := by
  cases h0 : s.own t with
  | none => rfl
  | some e =>
    have := h.le.own t e (by simpa [AS.drop] using h0)
    rw [ht] at this
    cases this
/-- A slice of whole numbers that grows. -/
def IBuf (s0 s : AS) (x : AV) (l : List Int) : Prop := (x = nilS ∧ l = []) ∨ ∃ t e, x = intsV l (.own t e) ∧ s.own t = some e ∧ s0.own t = none
theorem IBuf.weak {s0 s : AS} {x : AV} {l : List Int} (h : IBuf s0 s x l) : x.weak (intsV l .any) := by
  rcases h with ⟨rfl, rfl⟩ | ⟨t, e, rfl, _, _⟩
  · exact AV.weak_nil
  · exact AV.weak_any
end Go.AM


set_option autoImplicit false
namespace Go.AM
open Go

theorem some_neO {s : AS} {p o : Nat} {cs : List AV} (h : s.objs p = some cs) (k : s.objs o = none) : p ≠ o := by
  rintro rfl
  rw [h] at k
  cases k
/-- What an eye's reader knows of one more object. -/
structure Rd4 (s s1 : AS) (p o2 o3 o4 : Nat) (ce z cs ds : List AV) : Prop where
  rd : RdS s s1 p o2 o3 ce z cs
  obj : s1.objs o4 = some ds
  n4 : s.objs o4 = none
  p4 : p ≠ o4
  d2 : o2 ≠ o4
  d3 : o3 ≠ o4
theorem RdS.setNew {s s1 : AS} {p o2 o3 o4 : Nat} {ce z cs : List AV} (h : RdS s s1 p o2 o3 ce z cs) (h4 : s1.objs o4 = none) (ds : List AV) : Rd4 s (s1.set o4 ds) p o2 o3 o4 ce z cs ds := by
  have hp : p ≠ o4 := by rintro rfl; rw [h.eye] at h4; cases h4
  have h2 : o2 ≠ o4 := by rintro rfl; rw [h.res] at h4; cases h4
  have h3 : o3 ≠ o4 := by rintro rfl; rw [h.var] at h4; cases h4
  have hn : (s.drop p).objs o4 = none := by
    cases e : (s.drop p).objs o4 with
    | none => rfl
    | some x => have := h.le.objs _ _ e; rw [h4] at this; cases this
  have hn' : s.objs o4 = none := by simpa [AS.drop, upd, hp.symm] using hn
  refine ⟨⟨AS.le_set h.le hn _, ?_, ?_, ?_, h.n2, h.n3, h.p2, h.p3, h.d⟩, AS.set_objs_same _ _ _, hn', hp, h2, h3⟩
  · rw [AS.set_objs_ne _ hp]; exact h.eye
  · rw [AS.set_objs_ne _ h2]; exact h.res
  · rw [AS.set_objs_ne _ h3]; exact h.var
theorem Rd4.gain {s s1 : AS} {p o2 o3 o4 : Nat} {ce z cs ds : List AV} (h : Rd4 s s1 p o2 o3 o4 ce z cs ds) {t : Nat} (ht : s.own t = none) (e : Nat) : Rd4 s (s1.gain t e) p o2 o3 o4 ce z cs ds :=
  ⟨h.rd.gain ht e, h.obj, h.n4, h.p4, h.d2, h.d3⟩

theorem own_none_le {a b : AS} (h : a.le b) {t : Nat} (k : b.own t = none) : a.own t = none := by
  cases e : a.own t with
  | none => rfl
  | some x => rw [h.own t x e] at k; cases k
theorem RdS.fresh {s s1 : AS} {p o2 o3 o5 : Nat} {ce z cs : List AV} (h : RdS s s1 p o2 o3 ce z cs) (h5 : s1.objs o5 = none) (ds : List AV) : RdS s (s1.set o5 ds) p o2 o3 ce z cs := (h.setNew h5 ds).rd
theorem Rd4.fresh {s s1 : AS} {p o2 o3 o4 o5 : Nat} {ce z cs ds : List AV} (h : Rd4 s s1 p o2 o3 o4 ce z cs ds) (h5 : s1.objs o5 = none) (es : List AV) : Rd4 s (s1.set o5 es) p o2 o3 o4 ce z cs ds :=
  ⟨h.rd.fresh h5 es, by rw [AS.set_objs_ne _ (some_neO h.obj h5)]; exact h.obj, h.n4, h.p4, h.d2, h.d3⟩
end Go.AM


set_option autoImplicit false
namespace Go.AM
open Go

/-! ### The shape of a tree: nodes by number -/
def lvT : List Nat := [0, 1, 0, 2, 0, 1, 0, 3, 0, 1, 0, 2, 0, 1, 0, 4, 0, 1, 0, 2, 0, 1, 0, 3, 0, 1, 0, 2, 0, 1, 0, 5, 0, 1, 0, 2, 0, 1, 0, 3, 0, 1, 0, 2, 0, 1, 0, 4, 0, 1, 0, 2, 0, 1, 0, 3, 0, 1, 0, 2, 0, 1, 0]
/-- A node's level. -/
def lv (n : Nat) : Nat := lvT.getD n 0
/-- How far a branch's kids are. -/
def hf (n : Nat) : Nat := 2 ^ lv n / 2
def lo (n : Nat) : Nat := (n - (2 ^ lv n - 1)) / 2
def hi (n : Nat) : Nat := (n + (2 ^ lv n - 1)) / 2
def Fit (n : Nat) : Prop := n = 1 ∨ n = 2 ∨ n = 4 ∨ n = 8 ∨ n = 16 ∨ n = 32
instance (n : Nat) : Decidable (Fit n) := by unfold Fit; infer_instance
theorem Fit.le {n : Nat} (h : Fit n) : 1 ≤ n ∧ n ≤ 32 := by rcases h with h | h | h | h | h | h <;> omega
def dB64 : List Nat := [0, 1, 56, 2, 57, 49, 28, 3, 61, 58, 42, 50, 38, 29, 17, 4, 62, 47, 59, 36, 45, 43, 51, 22, 53, 39, 33, 30, 24, 18, 12, 5, 63, 55, 48, 27, 60, 41, 37, 16, 46, 35, 44, 21, 52, 32, 23, 11, 54, 26, 40, 15, 34, 20, 31, 10, 25, 14, 19, 9, 13, 8, 7, 6]
def u8C (n : Nat) : AV := .v (.int .u8 n)
def fitI (x : Int) : Prop := 0 ≤ x ∧ Fit x.toNat
instance (x : Int) : Decidable (fitI x) := by unfold fitI; infer_instance
def undI (x : Int) : Int × Int := if 0 ≤ x ∧ x < 63 then ((lo x.toNat : Int), (hi x.toNat : Int)) else (0, -1)
end Go.AM


set_option autoImplicit false
namespace Go.AM
open Go

/-! ### Tests, as a walk meets them -/
theorem yesI {a b : Int} (h : a = b) : (a == b) = true := by simpa using h
theorem notI {a b : Int} (h : a ≠ b) : (a == b) = false := by simpa using h
theorem neI {a b : Int} (h : a ≠ b) : (a != b) = true := by simpa using h
theorem eqI {a b : Int} (h : a = b) : (a != b) = false := by simpa using h
theorem eye_succM (i : Nat) (h : i < 9223372036854775807) : iadd .i64 (i : Int) 1 = ((i + 1 : Nat) : Int) := by
  rw [iadd_i64 (by omega)]; omega
end Go.AM


set_option autoImplicit false
namespace Go.Proofs.YtoagkleecgngdaaGreatDoor
open Go Go.AM Go.Proofs

variable {Γ : Nat → List AV}

set_option maxHeartbeats 400000 in
theorem bytesEqual_calls (a b : List UInt8) (s : AS) : ACalls Tryz.prog Γ 42 [bytesV a .any, bytesV b .any] s (fun r s' => r = .v (.bool (decide (a = b))) ∧ s' = s) := by
  refine acalls_body Tryz.func42 rfl Tryz.ntmps42 Tryz.results42 (by simp) ?_
  refine wS fun K hK => ?_
  simp only [↓DN,UP,DF,Qa,Qb,Qc,Qd,Qe,Qf,Qg,Qh,reduceCtorEq,↓reduceIte,Na,Nb,Nc,Nk,Nf,Ng,Nh,Za,Zb,Zc,TT]
  refine hK _ _ ?_;clear hK K
  refine wS fun K hK => ?_
  simp only [↓DN,UP,DF,Qa,Qb,Qc,Qd,Qe,Qf,Qg,Qh,reduceCtorEq,↓reduceIte,Na,Nb,Nc,Nk,Nf,Ng,Nh,Za,Zb,Zc,TT, beq_list]
  refine hK _ _ ?_;clear hK K
  refine awp_ret ?_
  simp only [retQ, AEnds, aresL, ares, List.toList_toArray, ↓upd_same]; try simp only [UP,DF,Nc,↓reduceIte,DT]
  exact ⟨_, _, AV.weak.refl _, AS.le.refl _, rfl, rfl⟩

end Go.Proofs.YtoagkleecgngdaaGreatDoor


set_option autoImplicit false
namespace Go.Proofs.YtoagkleecgngdaaGreatDoor
open Go Go.AM Go.Proofs

variable {Γ : Nat → List AV}

theorem IBuf.one {s0 s : AS} {x : AV} {l : List Int} (h : IBuf s0 s x l) : x.one = true := by
  rcases h with ⟨rfl, rfl⟩ | ⟨t, e, rfl, _, _⟩
  · rfl
  · rfl
end Go.Proofs.YtoagkleecgngdaaGreatDoor


set_option autoImplicit false
namespace Go.AM
open Go

/-! ### Parts that are written or read -/
structure PartV where
  kind : Int
  n : Int
  b : List UInt8
def PartV.cells (p : PartV) : List AV := [.v (.int .i64 p.kind), .v (.int .i64 p.n), bytesV p.b .any]
def partsC (ps : List PartV) : List AV := (ps.map PartV.cells).flatten

theorem IsTy.parts {avs : List AV} (h : IsTy (.slice 3 (.struct (.cons tyI (.cons tyI (.cons tyB .nil))))) avs) : ∃ ps : List PartV, avs = [.sl 3 ps.length (partsC ps) .any] := by
  obtain ⟨els, rfl, _, hall⟩ := IsTy.rows h
  have key : ∀ els : List (List AV), (∀ el ∈ els, el.length = 3 ∧ IsTy (.struct (.cons tyI (.cons tyI (.cons tyB .nil)))) el) → ∃ ps : List PartV, els = ps.map PartV.cells := by
    intro els
    induction els with
    | nil => intro _; exact ⟨[], rfl⟩
    | cons e els ih =>
      intro h
      obtain ⟨ps, rfl⟩ := ih (fun el hel => h el (by simp [hel]))
      obtain ⟨_, h1⟩ := h e (by simp)
      obtain ⟨x1, y1, rfl, t1, h1⟩ := isF_cons (isTy_struct h1)
      obtain ⟨x2, y2, rfl, t2, h1⟩ := isF_cons h1
      obtain ⟨x3, y3, rfl, t3, h1⟩ := isF_cons h1
      obtain rfl := isF_nil h1
      obtain ⟨n1, rfl, _⟩ := isTy_int t1
      obtain ⟨n2, rfl, _⟩ := isTy_int t2
      obtain ⟨l3, rfl, _⟩ := t3.bytes
      exact ⟨⟨n1, n2, l3⟩ :: ps, rfl⟩
  obtain ⟨ps, rfl⟩ := key els hall
  exact ⟨ps, by simp [partsC]⟩

end Go.AM


set_option autoImplicit false
namespace Go.AM
open Go

/-! ### Rows of cells that stand for a list -/
def rowC {α : Type} (c : α → List AV) (l : List α) : List AV := (l.map c).flatten
theorem row_len {α : Type} {c : α → List AV} {k : Nat} (hk : ∀ a, (c a).length = k) (l : List α) : (rowC c l).length = l.length * k := by
  induction l with
  | nil => simp [rowC]
  | cons a l ih =>
    have : rowC c (a :: l) = c a ++ rowC c l := rfl
    rw [this, List.length_append, ih, hk, List.length_cons, Nat.succ_mul, Nat.add_comm]
theorem row_snoc {α : Type} {c : α → List AV} (l : List α) (a : α) : rowC c (l ++ [a]) = rowC c l ++ c a := by simp [rowC]
theorem IsTy.row {α : Type} {c : α → List AV} {ty : Ty} {k : Nat} {Q : α → Prop} (hel : ∀ el, IsTy ty el → ∃ a, el = c a ∧ Q a) {avs : List AV} (h : IsTy (.slice k ty) avs) :
    ∃ l : List α, avs = [.sl k l.length (rowC c l) .any] ∧ (∀ a ∈ l, Q a) ∧ l.length ≤ maxLen := by
  obtain ⟨els, rfl, hlen, hall⟩ := IsTy.rows h
  have key : ∀ els : List (List AV), (∀ el ∈ els, el.length = k ∧ IsTy ty el) → ∃ l : List α, els = l.map c ∧ ∀ a ∈ l, Q a := by
    intro els
    induction els with
    | nil => intro _; exact ⟨[], rfl, by simp⟩
    | cons e els ih =>
      intro h
      obtain ⟨l, rfl, hl⟩ := ih (fun el hel => h el (by simp [hel]))
      obtain ⟨_, h1⟩ := h e (by simp)
      obtain ⟨a, rfl, ha⟩ := hel e h1
      refine ⟨a :: l, rfl, ?_⟩
      intro b hb
      rcases List.mem_cons.1 hb with rfl | hb
      · exact ha
      · exact hl b hb
  obtain ⟨l, rfl, hl⟩ := key els hall
  exact ⟨l, by simp [rowC], hl, by simpa using hlen⟩

/-! ### Commits -/
def Pub (n : Nat) : Prop := 2 ≤ n ∧ n ≤ 2305843009213693949
instance (n : Nat) : Decidable (Pub n) := by unfold Pub; infer_instance
structure PropV where
  kind : Int
  leaf : Int
  name : List UInt8
  key : Nat
  init : Nat
  deriving DecidableEq
structure SealV where
  frm : Nat
  text : List UInt8
  deriving DecidableEq
structure StepV where
  key : Nat
  seals : List SealV
  deriving DecidableEq
structure PathV where
  key : Nat
  parent : List UInt8
  steps : List StepV
  deriving DecidableEq
structure CommitV where
  group : List UInt8
  epoch : Int
  sender : Int
  props : List PropV
  hasPath : Bool
  path : PathV
  confirm : List UInt8
  member : List UInt8
  deriving DecidableEq
def PropV.cells (p : PropV) : List AV := [.v (.int .i64 p.kind), .v (.int .i64 p.leaf), bytesV p.name .any, .v (.int .u64 p.key), .v (.int .u64 p.init)]
def SealV.cells (p : SealV) : List AV := [.v (.int .u64 p.frm), bytesV p.text .any]
def StepV.cells (p : StepV) : List AV := [.v (.int .u64 p.key), .sl 2 p.seals.length (rowC SealV.cells p.seals) .any]
def PathV.cells (p : PathV) : List AV := [.v (.int .u64 p.key), bytesV p.parent .any, .sl 2 p.steps.length (rowC StepV.cells p.steps) .any]
def CommitV.cells (c : CommitV) : List AV :=
  [bytesV c.group .any, .v (.int .i64 c.epoch), .v (.int .i64 c.sender), .sl 5 c.props.length (rowC PropV.cells c.props) .any, .v (.bool c.hasPath),
   .v (.int .u64 c.path.key), bytesV c.path.parent .any, .sl 2 c.path.steps.length (rowC StepV.cells c.path.steps) .any, bytesV c.confirm .any, bytesV c.member .any]

/-! what fits -/
def PropV.wf (p : PropV) : Prop := p.key < 2 ^ 64 ∧ p.init < 2 ^ 64
def SealV.wf (p : SealV) : Prop := p.frm < 2 ^ 64
def StepV.wf (p : StepV) : Prop := p.key < 2 ^ 64 ∧ (∀ x ∈ p.seals, x.wf) ∧ p.seals.length ≤ maxLen
def PathV.wf (p : PathV) : Prop := p.key < 2 ^ 64 ∧ (∀ x ∈ p.steps, x.wf) ∧ p.steps.length ≤ maxLen
def CommitV.wf (c : CommitV) : Prop := (∀ x ∈ c.props, x.wf) ∧ c.path.wf ∧ c.props.length ≤ maxLen

/-! what is right -/
def PropV.right (p : PropV) : Prop :=
  (p.kind = 1 ∧ p.leaf = 0 ∧ 1 ≤ p.name.length ∧ p.name.length ≤ 16 ∧ Pub p.key ∧ Pub p.init) ∨
  (p.kind = 2 ∧ 0 ≤ p.leaf ∧ p.leaf < 32 ∧ p.name.length = 0 ∧ Pub p.key ∧ p.init = 0) ∨
  (p.kind = 3 ∧ 0 ≤ p.leaf ∧ p.leaf < 32 ∧ p.name.length = 0 ∧ p.key = 0 ∧ p.init = 0)
def SealV.right (p : SealV) : Prop := Pub p.frm ∧ p.text.length = 48
def StepV.right (p : StepV) : Prop := (∀ x ∈ p.seals, x.right) ∧ Pub p.key ∧ p.seals.length ≤ 32
def PathV.right (p : PathV) : Prop := (∀ x ∈ p.steps, x.right) ∧ Pub p.key ∧ (p.parent.length = 0 ∨ p.parent.length = 32) ∧ p.steps.length ≤ 5
def PathV.none (p : PathV) : Prop := p.key = 0 ∧ p.parent.length = 0 ∧ p.steps.length = 0
def CommitV.pathed (c : CommitV) : Prop := (c.hasPath = true → c.path.right) ∧ (c.hasPath = false → c.path.none)
def CommitV.right (c : CommitV) : Prop :=
  (∀ x ∈ c.props, x.right) ∧ (1 ≤ c.group.length ∧ c.group.length ≤ 16) ∧ (0 ≤ c.epoch ∧ c.epoch ≤ 1048576) ∧ (0 ≤ c.sender ∧ c.sender < 32) ∧ c.props.length ≤ 16 ∧ c.pathed ∧ c.confirm.length = 32 ∧ c.member.length = 32
instance (p : PropV) : Decidable p.right := by unfold PropV.right; infer_instance
instance (p : SealV) : Decidable p.right := by unfold SealV.right; infer_instance
instance (p : StepV) : Decidable p.right := by unfold StepV.right; infer_instance
instance (p : PathV) : Decidable p.right := by unfold PathV.right; infer_instance
instance (p : PathV) : Decidable p.none := by unfold PathV.none; infer_instance
instance (c : CommitV) : Decidable c.pathed := by unfold CommitV.pathed; infer_instance
instance (c : CommitV) : Decidable c.right := by unfold CommitV.right; infer_instance

end Go.AM


set_option autoImplicit false
namespace Go.AM
open Go

/-! ### Trees of nodes -/
def treeV (t : List NodeV) : AV := .sl 5 t.length (rowC NodeV.cells t) .any
/-- What fits a machine. -/
def TreeW (t : List NodeV) : Prop := t.length ≤ 2 ^ 61 ∧ ∀ n ∈ t, n.unm.length ≤ 2 ^ 61 ∧ n.key < 2 ^ 64
def nd (t : List NodeV) (i : Nat) : NodeV := t.getD i NodeV.nought
theorem nd_get {t : List NodeV} {i : Nat} (h : i < t.length) : nd t i = t[i] := by simp [nd, List.getD, h]
theorem TreeW.nd {t : List NodeV} (h : TreeW t) (i : Nat) : (nd t i).unm.length ≤ 2 ^ 61 ∧ (nd t i).key < 2 ^ 64 := by
  by_cases hi : i < t.length
  · rw [nd_get hi]; exact h.2 _ (List.getElem_mem hi)
  · have : Go.AM.nd t i = NodeV.nought := by simp [Go.AM.nd, List.getD, show t.length ≤ i by omega]
    rw [this]
    exact ⟨by decide, by decide⟩
/-- How many leaves a row of nodes has; 0: it is no tree. -/
def lvs (t : List NodeV) : Nat := if Fit ((t.length + 1) / 2) ∧ t.length = 2 * ((t.length + 1) / 2) - 1 then (t.length + 1) / 2 else 0
theorem lvs_zero_or {t : List NodeV} : lvs t = 0 ∨ (Fit (lvs t) ∧ t.length = 2 * lvs t - 1) := by
  unfold lvs
  split
  · rename_i h; exact .inr h
  · exact .inl rfl
def memI (t : List NodeV) (i : Int) : Prop := 0 ≤ i ∧ i < (lvs t : Int) ∧ (nd t (2 * i.toNat)).kind = 1
instance (t : List NodeV) (i : Int) : Decidable (memI t i) := by unfold memI; infer_instance
/-- The reference's, of any row. -/
def memR (t : List NodeV) (i : Int) : Prop := 0 ≤ i ∧ 2 * i < (t.length : Int) ∧ (nd t (2 * i.toNat)).kind = 1
instance (t : List NodeV) (i : Int) : Decidable (memR t i) := by unfold memR; infer_instance
/-- How many of k leaves from a on are members. -/
def cntN (P : Int → Prop) [DecidablePred P] (a : Nat) : Nat → Nat
  | 0 => 0
  | k + 1 => cntN P a k + if P ((a + k : Nat) : Int) then 1 else 0
/-- The halves of a row: how many leaves there may be at most. -/
def hlf (t : List NodeV) : Nat := (t.length + 1) / 2
/-- May a node be in its place? -/
def fitsT (t : List NodeV) (i : Nat) : Prop :=
  (nd t i).right ∧ ((nd t i).kind = 0 ∨ ((nd t i).kind = 1 ↔ i % 2 = 0)) ∧ ∀ u ∈ (nd t i).unm, (undI (i : Int)).1 ≤ u ∧ u ≤ (undI (i : Int)).2 ∧ memI t u
instance (t : List NodeV) (i : Nat) : Decidable (fitsT t i) := by unfold fitsT; infer_instance
/-- Is a row of nodes a tree that is right? -/
def goodAt (t : List NodeV) (i : Nat) : Prop := fitsT t i ∧ (i % 2 = 0 → memI t ((i / 2 : Nat) : Int) → ∀ j, j < hlf t → i / 2 < j → ¬ (memI t (j : Int) ∧ (nd t (2 * j)).name = (nd t i).name))
def rightT (t : List NodeV) : Prop := lvs t ≠ 0 ∧ (∀ i, i < t.length → goodAt t i) ∧ (lvs t = 1 ∨ 0 < cntN (memI t) (lvs t / 2) (lvs t - lvs t / 2))
instance (t : List NodeV) (i : Nat) : Decidable (goodAt t i) := by unfold goodAt; infer_instance
instance (t : List NodeV) : Decidable (rightT t) := by unfold rightT; infer_instance
end Go.AM


set_option autoImplicit false
namespace Go.AM
open Go

/-! ### Members -/
structure ListedV where
  leaf : Int
  name : List UInt8
  deriving DecidableEq
def ListedV.cells (x : ListedV) : List AV := [.v (.int .i64 x.leaf), bytesV x.name .any]
theorem rightT.hlf {t : List NodeV} (h : rightT t) : hlf t = lvs t := by
  have h1 := (lvs_zero_or.resolve_left h.1)
  have := h1.1.le
  unfold Go.AM.hlf
  omega
theorem rightT.len {t : List NodeV} (h : rightT t) : t.length = 2 * lvs t - 1 ∧ Fit (lvs t) := by
  have h1 := (lvs_zero_or.resolve_left h.1)
  exact ⟨h1.2, h1.1⟩
theorem rightT.nodes {t : List NodeV} (h : rightT t) {n : NodeV} (hn : n ∈ t) : n.right := by
  obtain ⟨i, hi, rfl⟩ := List.getElem_of_mem hn
  have := (h.2.1 i hi).1.1
  rwa [nd_get hi] at this
theorem rightT.nd {t : List NodeV} (h : rightT t) (i : Nat) : (nd t i).right := by
  by_cases hi : i < t.length
  · exact (h.2.1 i hi).1.1
  · have : Go.AM.nd t i = NodeV.nought := by simp [Go.AM.nd, List.getD, show t.length ≤ i by omega]
    rw [this]; exact nought_right
end Go.AM


set_option autoImplicit false
namespace Go.AM
open Go Go.RowKit Go.Shelf Go.Proofs

variable {P : Program} {Γ : Nat → List AV} {G : Gh} {s : AS} {w : World} {N : Nat}

def intW (i : Int) : Value := .int .i64 i
theorem VRels.ints {G : Gh} (l : List Int) : VRels G (l.map intC) (l.map intW) := by
  induction l with
  | nil => simp [VRels]
  | cons i l ih => simp only [List.map_cons, VRels]; exact ⟨intW i, _, rfl, by simp [intC, intW, VRel], ih⟩
end Go.AM


set_option autoImplicit false
namespace Go.AM
open Go Go.RowKit

variable {P : Program} {Γ : Nat → List AV} {G : Gh} {s : AS} {w : World} {N : Nat}

/-! ### A tree whose row is an object, and each node's unmerged leaves one, too -/
def onm : AV → Option Nat
  | .osl o _ _ _ _ => some o
  | _ => none
def cellsX (p : NodeV × AV) : List AV := [.v (.int .i64 p.1.kind), bytesV p.1.name .any, .v (.int .u64 p.1.key), bytesV p.1.parent .any, p.2]
theorem cellsX_len (p : NodeV × AV) : (cellsX p).length = 5 := rfl
theorem OBuf.le {sz n : Nat} {x : AV} {cs : List AV} {s s' : AS} (h : OBuf sz s x n cs) (k : s.le s') : OBuf sz s' x n cs := by
  rcases h with h | ⟨o, cap, rest, h1, h2, h3⟩
  · exact .inl h
  · exact .inr ⟨o, cap, rest, h1, k.objs _ _ h2, h3⟩
theorem OBuf.set_ne {sz n : Nat} {x : AV} {cs : List AV} {s : AS} {o : Nat} {ds : List AV} (h : OBuf sz s x n cs) (k : onm x ≠ some o) : OBuf sz (s.set o ds) x n cs := by
  rcases h with h | ⟨o', cap, rest, rfl, h2, h3⟩
  · exact .inl h
  · exact .inr ⟨o', cap, rest, rfl, by rw [AS.set_objs_ne _ (fun e => k (by rw [e]; rfl))]; exact h2, h3⟩
theorem OBuf.some {sz n : Nat} {x : AV} {cs : List AV} {s : AS} {o : Nat} (h : OBuf sz s x n cs) (k : onm x = some o) : ∃ ds, s.objs o = some ds := by
  rcases h with ⟨_, _, rfl | rfl | rfl⟩ | ⟨o', cap, rest, rfl, h2, h3⟩
  · cases k
  · cases k
  · cases k
  · cases k; exact ⟨_, h2⟩
structure XsOk (s0 s : AS) (T : List (NodeV × AV)) : Prop where
  buf : ∀ p ∈ T, OBuf 1 s p.2 p.1.unm.length (p.1.unm.map intC)
  new : ∀ p ∈ T, ∀ o, onm p.2 = some o → s0.objs o = none
  sep : T.Pairwise fun p q => ∀ o, onm p.2 = some o → onm q.2 ≠ some o

structure TreeO (s0 s : AS) (X : AV) (T : List (NodeV × AV)) : Prop where
  xs : XsOk s0 s T
  le : s0.le s
  row : OBuf 5 s X T.length (rowC cellsX T)
  newR : ∀ O, onm X = some O → s0.objs O = none
  sepR : ∀ O, onm X = some O → ∀ p ∈ T, onm p.2 ≠ some O

theorem AS.le_none {s s' : AS} (h : s.le s') {o : Nat} (k : s'.objs o = none) : s.objs o = none := by
  cases hs : s.objs o with
  | none => rfl
  | some cs => rw [h.objs _ _ hs] at k; cases k

theorem TreeO.nil (s : AS) : TreeO s s nilS [] :=
  ⟨⟨fun p hp => absurd hp (List.not_mem_nil), fun p hp => absurd hp (List.not_mem_nil), .nil⟩, .refl s, .inl ⟨rfl, rfl, .inl rfl⟩, (fun O h => by cases h), (fun O h => by cases h)⟩

/-- One more node. -/
theorem TreeO.push {s0 s : AS} {X : AV} {T : List (NodeV × AV)} {p : NodeV × AV} {ob cap : Nat} {rest : List AV} (h : TreeO s0 s X T) (hb : OBuf 1 s p.2 p.1.unm.length (p.1.unm.map intC))
    (h1 : ∀ o, onm p.2 = some o → s0.objs o = none ∧ (∀ q ∈ T, onm q.2 ≠ some o) ∧ onm X ≠ some o) (h2 : s.objs ob = none ∨ ∃ cap0, X = .osl ob 0 5 T.length cap0) (h3 : T.length + 1 ≤ cap) (h4 : cap < 2 ^ 63) (h5 : rest.length = (cap - (T.length + 1)) * 5) :
    TreeO s0 (s.set ob (rowC cellsX T ++ cellsX p ++ rest)) (.osl ob 0 5 (T.length + 1) cap) (T ++ [p]) := by
  have hob0 : s0.objs ob = none := by
    rcases h2 with h2 | ⟨cap0, h2⟩
    · exact AS.le_none h.le h2
    · exact h.newR ob (by rw [h2]; rfl)
  have hne : ∀ q ∈ T ++ [p], onm q.2 ≠ some ob := by
    intro q hq e
    rw [List.mem_append, List.mem_singleton] at hq
    rcases h2 with h2 | ⟨cap0, h2⟩
    · have : ∃ ds, s.objs ob = some ds := by
        rcases hq with hq | rfl
        · exact (h.xs.buf q hq).some e
        · exact hb.some e
      rw [h2] at this
      obtain ⟨ds, hd⟩ := this
      cases hd
    · have hX : onm X = some ob := by rw [h2]; rfl
      rcases hq with hq | rfl
      · exact h.sepR ob hX q hq e
      · exact (h1 ob e).2.2 hX
  refine ⟨⟨fun q hq => ?_, fun q hq o ho => ?_, ?_⟩, AS.le_set h.le hob0 _, .inr ⟨ob, cap, rest, by rw [List.length_append]; rfl, by rw [AS.set_objs_same, row_snoc], ?_, by rw [List.length_append]; exact h5, by rw [List.length_append]; exact h3, h4⟩, fun O hO => ?_, fun O hO q hq => ?_⟩
  · have hq' := hq
    rw [List.mem_append, List.mem_singleton] at hq
    rcases hq with hq | rfl
    · exact (h.xs.buf q hq).set_ne (hne q hq')
    · exact hb.set_ne (hne q hq')
  · rw [List.mem_append, List.mem_singleton] at hq
    rcases hq with hq | rfl
    · exact h.xs.new q hq o ho
    · exact (h1 o ho).1
  · rw [List.pairwise_append]
    refine ⟨h.xs.sep, List.pairwise_singleton _ _, fun a ha b hb' o ho => ?_⟩
    rw [List.mem_singleton] at hb'
    subst hb'
    intro e
    exact (h1 o e).2.1 a ha ho
  · exact row_len cellsX_len _
  · cases hO; exact hob0
  · cases hO; exact hne q hq

end Go.AM


set_option autoImplicit false
namespace Go.AM
open Go Go.RowKit

variable {P : Program} {Γ : Nat → List AV} {G : Gh} {s : AS} {w : World} {N : Nat}

theorem flat_bytes' (l : List UInt8) : ∀ c ∈ l.map byteV, ∃ x, c = .v x := by
  intro c hc
  obtain ⟨b, _, rfl⟩ := List.mem_map.1 hc
  exact ⟨_, rfl⟩
theorem flat_ints' (l : List Int) : ∀ c ∈ l.map intC, ∃ x, c = .v x := by
  intro c hc
  obtain ⟨b, _, rfl⟩ := List.mem_map.1 hc
  exact ⟨_, rfl⟩
theorem View.nilZ {sz : Nat} : View Γ s (.v (.slice none 0 0)) (.sl sz 0 [] .any) := fun G w u _ hv => AV.weak_nil _ _ (by simpa [Go.AM.nilS, VRel] using hv)

theorem OBuf.view {sz n : Nat} {x : AV} {cs ds : List AV} (h : OBuf sz s x n cs) (k : Views Γ s cs ds) (hd : cs = [] → ds = []) : View Γ s x (.sl sz n ds .any) := by
  rcases h with ⟨rfl, h0, hx⟩ | ⟨o, cap, rest, rfl, ho, hcl, _⟩
  · rw [hd h0]
    rcases hx with rfl | rfl | rfl
    · exact View.nilZ
    · exact View.empty (.inl rfl)
    · exact View.empty (.inr rfl)
  · exact View.osl2 ho hcl k

theorem views_row {s0 : AS} : ∀ {T : List (NodeV × AV)}, (∀ p ∈ T, OBuf 1 s p.2 p.1.unm.length (p.1.unm.map intC)) → Views Γ s (rowC cellsX T) (rowC NodeV.cells (T.map (·.1)))
  | [], _ => by simpa [rowC] using (Views.nil : Views Γ s [] [])
  | p :: T, h => by
    have h1 : Views Γ s (cellsX p) p.1.cells := by
      refine .cons .val (.cons (View.sl (flat_bytes' _)) (.cons .val (.cons (View.sl (flat_bytes' _)) (.cons ?_ .nil))))
      exact (h p (List.mem_cons_self)).view (Views.flat (flat_ints' _)) (fun e => e)
    have h2 := views_row (s0 := s0) (T := T) (fun q hq => h q (List.mem_cons_of_mem _ hq))
    have e1 : rowC cellsX (p :: T) = cellsX p ++ rowC cellsX T := by simp [rowC]
    have e2 : rowC NodeV.cells ((p :: T).map (·.1)) = p.1.cells ++ rowC NodeV.cells (T.map (·.1)) := by simp [rowC]
    rw [e1, e2]
    exact h1.append h2

theorem TreeO.view {s0 : AS} {X : AV} {T : List (NodeV × AV)} (h : TreeO s0 s X T) : View Γ s X (treeV (T.map (·.1))) := by
  have := h.row.view (views_row (Γ := Γ) (s0 := s0) h.xs.buf) (fun e => by
    cases T with
    | nil => rfl
    | cons p T => simp [rowC, cellsX] at e)
  unfold treeV
  rw [List.length_map]
  exact this

end Go.AM


set_option autoImplicit false
namespace Go.AM
open Go Go.RowKit

variable {Γ : Nat → List AV} {s : AS}

/-- Another node in a place: its unmerged leaves lie in an object that was there, or is new. -/
theorem TreeO.put {s0 s s1 : AS} {O cap : Nat} {rest : List AV} {T : List (NodeV × AV)} {i : Nat} {p : NodeV × AV} {n : Nat} (h : TreeO s0 s (.osl O 0 5 n cap) T) (hi : i < T.length) (hn : n = T.length)
    (hle : ∀ o, o ≠ O → (∀ ob, onm p.2 = some ob → o ≠ ob) → ∀ cs, s.objs o = some cs → s1.objs o = some cs) (hle0 : s0.le s1) (hb : OBuf 1 s1 p.2 p.1.unm.length (p.1.unm.map intC)) (hO : s1.objs O = some (rowC cellsX (T.set i p) ++ rest)) (hrl : rest.length = (cap - T.length) * 5) (hcap : T.length ≤ cap) (h63 : cap < 2 ^ 63)
    (hnew : ∀ ob, onm p.2 = some ob → ob ≠ O ∧ s0.objs ob = none ∧ ∀ j (hj : j < T.length), j ≠ i → onm (T[j]).2 ≠ some ob) : TreeO s0 s1 (.osl O 0 5 n cap) (T.set i p) := by
  have hsep := List.pairwise_iff_getElem.1 h.xs.sep
  have hget : ∀ j (hj : j < (T.set i p).length), (T.set i p)[j] = if i = j then p else T[j]'(by simpa using hj) := fun j hj => List.getElem_set ..
  refine ⟨⟨fun q hq => ?_, fun q hq o ho => ?_, ?_⟩, hle0, .inr ⟨O, cap, rest, by simp [hn], hO, by rw [row_len cellsX_len], by simpa using hrl, by simpa using hcap, h63⟩, h.newR, fun O' hO' q hq => ?_⟩
  · obtain ⟨j, hj, rfl⟩ := List.mem_iff_getElem.1 hq
    rw [hget]
    split
    · exact hb
    · rename_i hne
      have hj' : j < T.length := by simpa using hj
      rcases h.xs.buf _ (List.getElem_mem hj') with h1 | ⟨o, c, rs, h1, h2, h3⟩
      · exact .inl h1
      · have ho : onm (T[j]).2 = some o := by rw [h1]; rfl
        exact .inr ⟨o, c, rs, h1, hle o (fun e => h.sepR O rfl _ (List.getElem_mem hj') (by rw [ho, e])) (fun ob hob e => (hnew ob hob).2.2 j hj' (fun e => hne e.symm) (by rw [ho, e])) _ h2, h3⟩
  · obtain ⟨j, hj, rfl⟩ := List.mem_iff_getElem.1 hq
    rw [hget] at ho
    split at ho
    · exact (hnew o ho).2.1
    · exact h.xs.new _ (List.getElem_mem _) o ho
  · rw [List.pairwise_iff_getElem]
    intro a b ha hb' hab o ho
    rw [hget] at ho ⊢
    have ha' : a < T.length := by simpa using ha
    have hb'' : b < T.length := by simpa using hb'
    by_cases ea : i = a
    · rw [if_pos ea] at ho
      rw [if_neg (by omega)]
      exact (hnew o ho).2.2 b hb'' (by omega)
    · rw [if_neg ea] at ho
      by_cases eb : i = b
      · rw [if_pos eb]
        intro e
        exact (hnew o e).2.2 a ha' (by omega) ho
      · rw [if_neg eb]
        exact hsep a b ha' hb'' hab o ho
  · obtain ⟨j, hj, rfl⟩ := List.mem_iff_getElem.1 hq
    cases hO'
    rw [hget]
    split
    · exact fun e => (hnew O e).1 rfl
    · exact h.sepR O rfl _ (List.getElem_mem _)

end Go.AM


set_option autoImplicit false
namespace Go.AM

/-! ### The digest, in plain Lean: words are natural numbers below 2 ^ 32 -/
namespace Sha
def add32 (a b : Nat) : Nat := (a + b) % 4294967296
def rotr (x n : Nat) : Nat := (x / 2 ^ n) ||| ((x * 2 ^ (32 - n)) % 4294967296)
def sig3 (x a b c : Nat) : Nat := (rotr x a ^^^ rotr x b) ^^^ rotr x c
def sig2 (x a b c : Nat) : Nat := (rotr x a ^^^ rotr x b) ^^^ (x / 2 ^ c)
def be32 (a b c d : Nat) : Nat := ((a * 256 + b) * 256 + c) * 256 + d

/-- The next word of a block's row. -/
def word (c : List UInt8) (p : List Nat) (i : Nat) : Nat :=
  if i < 16 then be32 ((c.getD (4 * i) 0).toNat) ((c.getD (4 * i + 1) 0).toNat) ((c.getD (4 * i + 2) 0).toNat) ((c.getD (4 * i + 3) 0).toNat)
  else add32 (add32 (add32 (sig2 (p.getD (i - 2) 0) 17 19 10) (p.getD (i - 7) 0)) (sig2 (p.getD (i - 15) 0) 7 18 3)) (p.getD (i - 16) 0)
/-- The first n words of a block's row. -/
def sch (c : List UInt8) : Nat → List Nat
  | 0 => []
  | n + 1 => sch c n ++ [word c (sch c n) n]
theorem sch_length (c : List UInt8) (n : Nat) : (sch c n).length = n := by
  induction n with
  | zero => rfl
  | succ n ih => simp [sch, ih]

def t1 (e f g h k w : Nat) : Nat := add32 (add32 (add32 (add32 h (sig3 e 6 11 25)) ((e &&& f) ^^^ ((4294967295 - e) &&& g))) k) w
def t2 (a b c : Nat) : Nat := add32 (sig3 a 2 13 22) (((a &&& b) ^^^ (a &&& c)) ^^^ (b &&& c))
structure St where
  a : Nat
  b : Nat
  c : Nat
  d : Nat
  e : Nat
  f : Nat
  g : Nat
  h : Nat
def St.step (s : St) (k w : Nat) : St :=
  ⟨add32 (t1 s.e s.f s.g s.h k w) (t2 s.a s.b s.c), s.a, s.b, s.c, add32 s.d (t1 s.e s.f s.g s.h k w), s.e, s.f, s.g⟩
def St.add (s t : St) : St := ⟨add32 s.a t.a, add32 s.b t.b, add32 s.c t.c, add32 s.d t.d, add32 s.e t.e, add32 s.f t.f, add32 s.g t.g, add32 s.h t.h⟩
def St.list (s : St) : List Nat := [s.a, s.b, s.c, s.d, s.e, s.f, s.g, s.h]
structure St.ok (s : St) : Prop where
  a : s.a < 4294967296
  b : s.b < 4294967296
  c : s.c < 4294967296
  d : s.d < 4294967296
  e : s.e < 4294967296
  f : s.f < 4294967296
  g : s.g < 4294967296
  h : s.h < 4294967296

def K : List Nat := [
  0x428a2f98, 0x71374491, 0xb5c0fbcf, 0xe9b5dba5, 0x3956c25b, 0x59f111f1, 0x923f82a4, 0xab1c5ed5,
  0xd807aa98, 0x12835b01, 0x243185be, 0x550c7dc3, 0x72be5d74, 0x80deb1fe, 0x9bdc06a7, 0xc19bf174,
  0xe49b69c1, 0xefbe4786, 0x0fc19dc6, 0x240ca1cc, 0x2de92c6f, 0x4a7484aa, 0x5cb0a9dc, 0x76f988da,
  0x983e5152, 0xa831c66d, 0xb00327c8, 0xbf597fc7, 0xc6e00bf3, 0xd5a79147, 0x06ca6351, 0x14292967,
  0x27b70a85, 0x2e1b2138, 0x4d2c6dfc, 0x53380d13, 0x650a7354, 0x766a0abb, 0x81c2c92e, 0x92722c85,
  0xa2bfe8a1, 0xa81a664b, 0xc24b8b70, 0xc76c51a3, 0xd192e819, 0xd6990624, 0xf40e3585, 0x106aa070,
  0x19a4c116, 0x1e376c08, 0x2748774c, 0x34b0bcb5, 0x391c0cb3, 0x4ed8aa4a, 0x5b9cca4f, 0x682e6ff3,
  0x748f82ee, 0x78a5636f, 0x84c87814, 0x8cc70208, 0x90befffa, 0xa4506ceb, 0xbef9a3f7, 0xc67178f2]
def H0 : St := ⟨0x6a09e667, 0xbb67ae85, 0x3c6ef372, 0xa54ff53a, 0x510e527f, 0x9b05688c, 0x1f83d9ab, 0x5be0cd19⟩

/-- The first n rounds over a row of words. -/
def rounds (w : List Nat) (s : St) : Nat → St
  | 0 => s
  | n + 1 => (rounds w s n).step (K.getD n 0) (w.getD n 0)
def mix (s : St) (c : List UInt8) : St := s.add (rounds (sch c 64) s 64)

def blk (l : List UInt8) (i : Nat) : List UInt8 := (l.drop (64 * i)).take 64
/-- The state behind the first n blocks. -/
def hash (l : List UInt8) : Nat → St
  | 0 => H0
  | n + 1 => mix (hash l n) (blk l n)

def zeros (n : Nat) : Nat := (119 - n % 64) % 64
def lenB (n : Nat) : List UInt8 := [UInt8.ofNat (8 * n / 2 ^ 56), UInt8.ofNat (8 * n / 2 ^ 48), UInt8.ofNat (8 * n / 2 ^ 40), UInt8.ofNat (8 * n / 2 ^ 32), UInt8.ofNat (8 * n / 2 ^ 24), UInt8.ofNat (8 * n / 2 ^ 16), UInt8.ofNat (8 * n / 2 ^ 8), UInt8.ofNat (8 * n)]
def pad (l : List UInt8) : List UInt8 := l ++ (128 :: (List.replicate (zeros l.length) 0 ++ lenB l.length))
theorem pad_length (l : List UInt8) : (pad l).length = l.length + 9 + zeros l.length := by simp [pad, lenB]; omega
theorem pad_mod (l : List UInt8) : (pad l).length % 64 = 0 := by rw [pad_length, zeros]; omega

def be (x : Nat) : List UInt8 := [UInt8.ofNat (x / 2 ^ 24), UInt8.ofNat (x / 2 ^ 16), UInt8.ofNat (x / 2 ^ 8), UInt8.ofNat x]
def St.bytes (s : St) : List UInt8 := be s.a ++ be s.b ++ be s.c ++ be s.d ++ be s.e ++ be s.f ++ be s.g ++ be s.h
/-- The digest. -/
def sum (l : List UInt8) : List UInt8 := (hash (pad l) ((pad l).length / 64)).bytes

theorem sum_length (l : List UInt8) : (sum l).length = 32 := rfl

/-! ### Bounds -/
theorem add32_lt (a b : Nat) : add32 a b < 4294967296 := Nat.mod_lt _ (by decide)
theorem rotr_lt {x : Nat} (n : Nat) (h : x < 4294967296) : rotr x n < 4294967296 :=
  Nat.or_lt_two_pow (n := 32) (Nat.lt_of_le_of_lt (Nat.div_le_self _ _) h) (Nat.mod_lt _ (by decide))
theorem be32_lt (a b c d : UInt8) : be32 a.toNat b.toNat c.toNat d.toNat < 4294967296 := by
  have := a.toNat_lt; have := b.toNat_lt; have := c.toNat_lt; have := d.toNat_lt
  simp only [be32]; omega
theorem word_lt (c : List UInt8) (p : List Nat) (i : Nat) : word c p i < 4294967296 := by
  unfold word
  split
  · exact be32_lt _ _ _ _
  · exact add32_lt _ _
theorem sch_lt (c : List UInt8) (n : Nat) : ∀ x ∈ sch c n, x < 4294967296 := by
  induction n with
  | zero => intro x hx; simp [sch] at hx
  | succ n ih =>
    intro x hx
    simp only [sch, List.mem_append, List.mem_singleton] at hx
    rcases hx with hx | rfl
    · exact ih x hx
    · exact word_lt _ _ _
theorem sch_getD_lt (c : List UInt8) (n i : Nat) : (sch c n).getD i 0 < 4294967296 := by
  rw [List.getD_eq_getElem?_getD]
  cases h : (sch c n)[i]? with
  | none => simp
  | some x => exact sch_lt c n x (List.mem_of_getElem? h)
theorem H0_ok : H0.ok := by constructor <;> decide
theorem St.ok.step {s : St} (h : s.ok) (k w : Nat) : (s.step k w).ok := ⟨add32_lt _ _, h.a, h.b, h.c, add32_lt _ _, h.e, h.f, h.g⟩
theorem St.ok.add (s t : St) : (s.add t).ok := ⟨add32_lt _ _, add32_lt _ _, add32_lt _ _, add32_lt _ _, add32_lt _ _, add32_lt _ _, add32_lt _ _, add32_lt _ _⟩
theorem rounds_ok {w : List Nat} {s : St} (h : s.ok) : ∀ n, (rounds w s n).ok
  | 0 => h
  | n + 1 => (rounds_ok h n).step _ _
theorem mix_ok (s : St) (c : List UInt8) : (mix s c).ok := St.ok.add _ _
theorem hash_ok (l : List UInt8) : ∀ n, (hash l n).ok
  | 0 => H0_ok
  | n + 1 => mix_ok _ _
end Sha
end Go.AM


set_option autoImplicit false
namespace Go.AM

/-! ### The tag, in plain Lean -/
namespace Mac
def key (k : List UInt8) : List UInt8 := if 64 < k.length then Sha.sum k else k
def fill (k : List UInt8) : List UInt8 := k ++ List.replicate (64 - k.length) 0
def turn (x : UInt8) (l : List UInt8) : List UInt8 := l.map fun c => c ^^^ x
def inner (k l : List UInt8) : List UInt8 := Sha.sum (turn 54 (fill (key k)) ++ l)
def tag (k l : List UInt8) : List UInt8 := Sha.sum (turn 92 (fill (key k)) ++ inner k l)

theorem key_le (k : List UInt8) : (key k).length ≤ 64 := by
  unfold key
  split
  · rw [Sha.sum_length]; decide
  · omega
theorem fill_len (k : List UInt8) (h : k.length ≤ 64) : (fill k).length = 64 := by simp [fill]; omega
theorem turn_len (x : UInt8) (l : List UInt8) : (turn x l).length = l.length := by simp [turn]
theorem tag_len (k l : List UInt8) : (tag k l).length = 32 := Sha.sum_length _
theorem inner_len (k l : List UInt8) : (inner k l).length = 32 := Sha.sum_length _

/-- The first i octets turned. -/
def part (x : UInt8) (l : List UInt8) (i : Nat) : List UInt8 := turn x (l.take i) ++ l.drop i
theorem part_zero (x : UInt8) (l : List UInt8) : part x l 0 = l := by simp [part, turn]
theorem part_all (x : UInt8) (l : List UInt8) (i : Nat) (h : l.length ≤ i) : part x l i = turn x l := by
  rw [part, List.take_of_length_le h, List.drop_eq_nil_of_le h, List.append_nil]
theorem part_len (x : UInt8) (l : List UInt8) (i : Nat) : (part x l i).length = l.length := by simp [part, turn]; omega
theorem part_get (x : UInt8) (l : List UInt8) (i : Nat) (h : i < l.length) : List.drop i ((part x l i).map byteV) = byteV (l.getD i 0) :: List.drop (i + 1) ((part x l i).map byteV) := by
  have hl : ((part x l i).map byteV).length = l.length := by rw [List.length_map, part_len]
  rw [List.drop_eq_getElem_cons (by omega)]
  congr 1
  rw [List.getElem_map]
  congr 1
  simp only [part]
  rw [List.getElem_append_right (by simp [turn]; omega)]
  have e : (turn x (l.take i)).length = i := by simp [turn]; omega
  simp only [e, Nat.sub_self, List.getElem_drop, Nat.add_zero]
  simp [List.getD_eq_getElem?_getD, h]
theorem part_set (x : UInt8) (l : List UInt8) (i : Nat) (h : i < l.length) : ((part x l i).map byteV).set i (byteV (l.getD i 0 ^^^ x)) = (part x l (i + 1)).map byteV := by
  rw [← List.map_set]
  congr 1
  simp only [part]
  have e : (turn x (l.take i)).length = i := by simp [turn]; omega
  rw [List.set_append_right _ _ (by omega), e, Nat.sub_self, List.drop_eq_getElem_cons h, List.set_cons_zero, List.take_succ_eq_append_getElem h]
  simp only [turn, List.map_append, List.map_cons, List.map_nil, List.append_assoc, List.cons_append, List.nil_append, List.getD_eq_getElem?_getD, List.getElem?_eq_getElem h, Option.getD_some]
theorem byte_xor (a b : UInt8) : ixor .u8 (a.toNat : Int) (b.toNat : Int) = (((a ^^^ b).toNat : Nat) : Int) := by
  rw [ixor_u (k := .u8) rfl a.toNat b.toNat (by simpa [IntKind.bits] using a.toNat_lt) (by simpa [IntKind.bits] using b.toNat_lt), UInt8.toNat_xor]

/-- Copied to the front. -/
theorem asetAll_front : ∀ (ds cs : List AV) (off : Nat), off + ds.length ≤ cs.length → asetAll cs off ds = cs.take off ++ ds ++ cs.drop (off + ds.length)
  | [], cs, off, h => by simp [asetAll]
  | d :: ds, cs, off, h => by
    rw [asetAll, asetAll_front ds (cs.set off d) (off + 1) (by simp at h ⊢; omega)]
    simp only [List.length_cons] at h
    have h1 : (cs.set off d).take (off + 1) = cs.take off ++ [d] := by
      rw [List.take_succ_eq_append_getElem (by simp; omega), List.getElem_set_self, List.take_set_of_le (Nat.le_refl off)]
    have h2 : (cs.set off d).drop (off + 1 + ds.length) = cs.drop (off + (ds.length + 1)) := by
      rw [List.drop_set_of_lt (by omega)]
      congr 1
      omega
    rw [h1, h2, List.length_cons]
    simp
theorem fill_front (k : List UInt8) (h : k.length ≤ 64) : asetAll (List.replicate 64 (byteV 0)) 0 (k.map byteV) = (fill k).map byteV := by
  rw [asetAll_front _ _ _ (by simpa using h)]
  simp only [List.take_zero, List.nil_append, Nat.zero_add, List.length_map, fill, List.map_append, List.map_replicate, List.drop_replicate]
end Mac
end Go.AM


set_option autoImplicit false
namespace Go.AM
open Go Go.RowKit

variable {P : Program} {Γ : Nat → List AV} {s : AS}

/-! ### Cells of a row that is an object -/
theorem rowX_len (T : List (NodeV × AV)) : (rowC cellsX T).length = T.length * 5 := row_len cellsX_len T
theorem TreeO.osl {s0 s : AS} {X : AV} {T : List (NodeV × AV)} (h : TreeO s0 s X T) (h0 : T.length ≠ 0) : ∃ O cap rest, X = .osl O 0 5 T.length cap ∧ s.objs O = some (rowC cellsX T ++ rest) ∧ rest.length = (cap - T.length) * 5 ∧ T.length ≤ cap ∧ cap < 2 ^ 63 := by
  rcases h.row with ⟨h1, _⟩ | ⟨O, cap, rest, h1, h2, _, h4, h5, h6⟩
  · exact absurd h1 h0
  · exact ⟨O, cap, rest, h1, h2, h4, h5, h6⟩

/-! ### New noughts behind a row -/
def pN : NodeV × AV := (NodeV.nought, nilS)
theorem TreeO.grow {s0 s : AS} {X : AV} {T : List (NodeV × AV)} {ob cap : Nat} (h : TreeO s0 s X T) (hf : s.objs ob = none ∨ ∃ cap0, X = .osl ob 0 5 T.length cap0) (h63 : cap < 2 ^ 63) :
    ∀ (k : Nat) (rest : List AV), T.length + (k + 1) ≤ cap → rest.length = (cap - (T.length + (k + 1))) * 5 → TreeO s0 (s.set ob (rowC cellsX (T ++ List.replicate (k + 1) pN) ++ rest)) (.osl ob 0 5 (T.length + (k + 1)) cap) (T ++ List.replicate (k + 1) pN)
  | 0, rest, h1, h2 => by
    have := h.push (p := pN) (ob := ob) (cap := cap) (rest := rest) (.inl ⟨rfl, rfl, .inl rfl⟩) (fun o ho => by cases ho) hf h1 h63 h2
    have e : rowC cellsX (T ++ List.replicate (0 + 1) pN) = rowC cellsX T ++ cellsX pN := row_snoc _ _
    rw [e]
    exact this
  | k + 1, rest, h1, h2 => by
    have ih := TreeO.grow h hf h63 k (cellsX pN ++ rest) (by omega) (by
      rw [List.length_append, h2]
      show 5 + _ = _
      rw [show cap - (T.length + (k + 1)) = (cap - (T.length + (k + 1 + 1))) + 1 by omega, Nat.succ_mul]
      omega)
    have hl : (T ++ List.replicate (k + 1) pN).length = T.length + (k + 1) := by simp
    have := ih.push (p := pN) (ob := ob) (cap := cap) (rest := rest) (.inl ⟨rfl, rfl, .inl rfl⟩) (fun o ho => by cases ho) (.inr ⟨cap, by rw [hl]⟩) (by rw [hl]; omega) h63 (by rw [hl, h2]; congr 1)
    rw [AS.set_set, hl] at this
    have e : T ++ List.replicate (k + 1 + 1) pN = T ++ List.replicate (k + 1) pN ++ [pN] := by rw [List.replicate_succ' (n := k + 1), List.append_assoc]
    have e2 : rowC cellsX (T ++ List.replicate (k + 1) pN ++ [pN]) = rowC cellsX (T ++ List.replicate (k + 1) pN) ++ cellsX pN := row_snoc _ _
    rw [e, e2]
    exact this
theorem TreeO.cut {s0 s : AS} {O cap k : Nat} {T : List (NodeV × AV)} (h : TreeO s0 s (.osl O 0 5 T.length cap) T) (hk : k ≤ T.length) : TreeO s0 s (.osl O 0 5 k cap) (T.take k) := by
  have hkl : (T.take k).length = k := by rw [List.length_take]; omega
  refine ⟨⟨fun p hp => h.xs.buf p (List.mem_of_mem_take hp), fun p hp => h.xs.new p (List.mem_of_mem_take hp), h.xs.sep.sublist (List.take_sublist _ _)⟩, h.le, ?_, fun O' hO' => h.newR O' hO', fun O' hO' p hp => h.sepR O' hO' p (List.mem_of_mem_take hp)⟩
  rcases h.row with ⟨h0, h1, h2⟩ | ⟨O2, cap2, rest, e, h2, h3, h4, h5, h6⟩
  · rcases h2 with h2 | h2 | h2 <;> cases h2
  · injection e with e1 _ _ _ e5
    subst e1 e5
    have hs : rowC cellsX T = rowC cellsX (T.take k) ++ rowC cellsX (T.drop k) := by
      conv => lhs; rw [← List.take_append_drop k T]
      simp only [rowC, List.map_append, List.flatten_append]
    refine .inr ⟨O, cap, rowC cellsX (T.drop k) ++ rest, by rw [hkl], by rw [h2, hs, List.append_assoc], rowX_len _, ?_, by omega, h6⟩
    rw [List.length_append, rowX_len, List.length_drop, h4, hkl, ← Nat.add_mul]
    congr 1
    omega
end Go.AM


set_option autoImplicit false
namespace Go.AM

/-! ### Expanding, in plain Lean -/
namespace Kdf
variable (secret info : List UInt8)
def blk : Nat → List UInt8
  | 0 => []
  | i + 1 => Mac.tag secret (blk i ++ info ++ [UInt8.ofNat (i + 1)])
def row : Nat → List UInt8
  | 0 => []
  | i + 1 => row i ++ blk secret info (i + 1)
theorem blk_len (i : Nat) : (blk secret info (i + 1)).length = 32 := Mac.tag_len _ _
theorem row_len : ∀ i : Nat, (row secret info i).length = 32 * i
  | 0 => rfl
  | i + 1 => by rw [row, List.length_append, row_len i, blk_len]; omega
def rounds (n : Nat) : Nat := (n + 31) / 32
def expand (n : Nat) : List UInt8 := (row secret info (rounds n)).take n
theorem rounds_le (n : Nat) : n ≤ 32 * rounds n := by unfold rounds; omega
theorem expand_len (n : Nat) : (expand secret info n).length = n := by
  rw [expand, List.length_take, row_len]
  have := rounds_le n
  omega
/-- A round is due. -/
theorem due (n i : Nat) : 32 * i < n ↔ i < rounds n := by unfold rounds; omega
def ok (n : Int) : Bool := decide (0 ≤ n) && decide (n ≤ 8160)
def get (n : Int) : List UInt8 := if ok n = true then expand secret info n.toNat else []
end Kdf
end Go.AM


set_option autoImplicit false
namespace Go.AM

/-! ### Labelled secrets, in plain Lean -/
namespace Kdf
def mls : List UInt8 := [109, 108, 115, 32]
def fits (l c : List UInt8) (n : Int) : Bool := decide (l.length ≤ 251) && decide (c.length ≤ 65535) && decide (0 ≤ n) && decide (n ≤ 8160)
def text (l c : List UInt8) (n : Nat) : List UInt8 := be 2 n ++ (be 1 (mls ++ l).length ++ (mls ++ l)) ++ (be 2 c.length ++ c)
def label (secret l c : List UInt8) (n : Int) : List UInt8 := if fits l c n = true then expand secret (text l c n.toNat) n.toNat else []
def derive (secret l : List UInt8) : List UInt8 := label secret (l.take 251) [] 32
def pen (l c : List UInt8) (n : Int) : List UInt8 × Bool := penText 2 c (penText 1 (mls ++ l) (penSmall 2 n ([], false)))

theorem num_bad {k n : Nat} {st : List UInt8 × Bool} (h : st.2 = true) : (penNum k n st).2 = true := by rw [penNum, if_pos h]; exact h
theorem small_bad {k : Nat} {n : Int} {st : List UInt8 × Bool} (h : st.2 = true) : (penSmall k n st).2 = true := by
  unfold penSmall
  split
  · exact num_bad h
  · rfl
theorem raw_bad {m : List UInt8} {st : List UInt8 × Bool} (h : st.2 = true) : (penRaw m st).2 = true := by rw [penRaw, if_pos h]; exact h
theorem text_bad {k : Nat} {m : List UInt8} {st : List UInt8 × Bool} (h : st.2 = true) : (penText k m st).2 = true := raw_bad (small_bad h)
theorem small_wide {k : Nat} {n : Int} {st : List UInt8 × Bool} (h : ¬ (0 ≤ n ∧ n < 2 ^ (8 * k))) : (penSmall k n st).2 = true := by rw [penSmall, if_neg h]
theorem text_wide {k : Nat} {m : List UInt8} {st : List UInt8 × Bool} (h : ¬ (m.length : Int) < 2 ^ (8 * k)) : (penText k m st).2 = true := raw_bad (small_wide fun h' => h h'.2)

theorem pen_good (l c : List UInt8) (n : Int) (h0 : 0 ≤ n) (h1 : n ≤ 65535) (hl : l.length ≤ 251) (hc : c.length ≤ 65535) : pen l c n = (text l c n.toNat, false) := by
  obtain ⟨m, rfl⟩ : ∃ m : Nat, n = (m : Int) := ⟨n.toNat, by omega⟩
  have hm : (mls ++ l).length = 4 + l.length := by simp [mls]; omega
  unfold pen
  rw [penSmall_nat (by omega), penText_nat (by rw [hm]; omega), penText_nat (by omega)]
  simp [text]
theorem pen_bad (l c : List UInt8) (n : Int) (h : ¬ (0 ≤ n ∧ n ≤ 65535 ∧ l.length ≤ 251 ∧ c.length ≤ 65535)) : (pen l c n).2 = true := by
  have hm : (mls ++ l).length = 4 + l.length := by simp [mls]; omega
  unfold pen
  by_cases h0 : 0 ≤ n ∧ n < 2 ^ (8 * 2)
  · by_cases h1 : ((mls ++ l).length : Int) < 2 ^ (8 * 1)
    · refine text_wide fun h2 => h ?_
      simp only [Nat.reduceMul] at h0 h1 h2
      refine ⟨h0.1, by omega, by omega, by omega⟩
    · exact text_bad (text_wide h1)
  · exact text_bad (text_bad (small_wide h0))
theorem text_len (k : Nat) (m : List UInt8) (st : List UInt8 × Bool) : (penText k m st).1.length ≤ st.1.length + k + m.length := by
  have := penSmall_len k (m.length : Int) st
  unfold penText penRaw
  split
  · omega
  · simp only [List.length_append]
    omega
end Kdf
end Go.AM


set_option autoImplicit false
namespace Go.AM

/-! ### The secrets of an epoch, in plain Lean -/
namespace Sch
def epochW : List UInt8 := [101, 112, 111, 99, 104]
def welcomeW : List UInt8 := [119, 101, 108, 99, 111, 109, 101]
def exporterW : List UInt8 := [101, 120, 112, 111, 114, 116, 101, 114]
def confirmW : List UInt8 := [99, 111, 110, 102, 105, 114, 109]
def memberW : List UInt8 := [109, 101, 109, 98, 101, 114, 115, 104, 105, 112]
def initW : List UInt8 := [105, 110, 105, 116]
def main (j : List UInt8) : List UInt8 := Mac.tag j (List.replicate 32 0)
def epoch (j c : List UInt8) : List UInt8 := Kdf.label (main j) epochW c 32
def of (j c : List UInt8) : List (List UInt8) := [j, Kdf.derive (main j) welcomeW, Kdf.derive (epoch j c) exporterW, Kdf.derive (epoch j c) confirmW, Kdf.derive (epoch j c) memberW, Kdf.derive (epoch j c) initW]
end Sch
end Go.AM


