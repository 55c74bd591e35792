/- Contracts of the program's functions, each walked once; the conditions stand in each theorem. -/
import Derived.Test.YtcnilmidfhpckaaGreatDoorAMp6
import Derived.Test.YtcnilmidfhpckaaGreatDoorW1
import Derived.Test.YtcnilmidfhpckaaGreatDoorW4
import Derived.Test.YtcnilmidfhpckaaGreatDoorW5
import Derived.Test.YtcnilmidfhpckaaGreatDoorAMp5
set_option linter.unusedSimpArgs false
set_option linter.unusedVariables false
open Nat renaming reduceLT → Na, reduceLeDiff → Nb, reduceEqDiff → Nc, reduceAdd → Nk, reduceMul → Nf, reducePow → Ng, reduceSub → Nh
open Int renaming reduceLT → Za, reduceLE → Zb, reduceToNat → Zc
open Go.AM renaming ashift → Qa, aconv → Qb, aindexAddr → Qc, aindex → Qd, aslice → Qe, abuiltin → Qf, awp_reg_seq → wS, awp_reg_end → wE, awp_seq_k → wK, awp_cond_k → wC
open Go.AM.AV renaming cells → Qg, one → Qh
set_option autoImplicit false
namespace Go.Proofs.YtcnilmidfhpckaaGreatDoor
open Go Go.AM Go.Proofs


variable {Γ : Nat → List AV}

set_option maxRecDepth 100000 in
set_option maxHeartbeats 4000000 in
theorem refNodeRead_calls (s : AS) (p : Nat) (st : EyeSt) (hl : st.1.length ≤ 2 ^ 44) (h : s.objs p = some (reyeC st)) :
    ACalls Tryz.prog Γ 54 [.ptr p 0] s (fun r s' => r = .agg (nodeRead st).1.cells ∧ s' = s.set p (reyeC (nodeRead st).2)) := by
  refine acalls_body Tryz.func54 rfl Tryz.ntmps54 Tryz.results54 (by simp) ?_
  obtain ⟨q1, e1⟩ : ∃ q, q = eyeNum 1 st := ⟨_, rfl⟩
  obtain ⟨q2, e2⟩ : ∃ q, q = nodeB q1.1 q1.2 := ⟨_, rfl⟩
  obtain ⟨q3, e3⟩ : ∃ q, q = nodeC q1.1 q2.2 := ⟨_, rfl⟩
  obtain ⟨q4, e4⟩ : ∃ q, q = nodeD q1.1 q3.2 := ⟨_, rfl⟩
  obtain ⟨q5, e5⟩ : ∃ q, q = nodeE q1.1 q4.2 := ⟨_, rfl⟩
  have l1 : q1.2.1.length ≤ 2 ^ 44 := by rw [e1]; exact Nat.le_trans (eyeNum_len _ _) hl
  have l2 : q2.2.1.length ≤ 2 ^ 44 := by rw [e2]; exact Nat.le_trans (nodeB_left _ _) l1
  have l3 : q3.2.1.length ≤ 2 ^ 44 := by rw [e3]; exact Nat.le_trans (nodeC_left _ _) l2
  have l4 : q4.2.1.length ≤ 2 ^ 44 := by rw [e4]; exact Nat.le_trans (nodeD_left _ _) l3
  have l5 : q5.1.length < 256 := by rw [e5]; exact nodeE_len _ _
  have k1 : q1.1 < 256 := by rw [e1]; exact Nat.lt_of_lt_of_le (eyeNum_lt 1 _) (by decide)
  obtain ⟨N, hN⟩ : ∃ N : NodeV, N = ⟨q1.1, q2.1, q3.1, q4.1, q5.1⟩ := ⟨_, rfl⟩
  have hrr : nodeRead st = (if (nodeF N q5.2).2 = 0 then N else NodeV.nought, nodeF N q5.2) := by subst hN e5 e4 e3 e2 e1; rfl
  refine wS fun K hK => ?_
  simp only [↓DN,UP,DF,Qa,Qb,Qc,Qd,Qe,Qf,Qg,Qh,reduceCtorEq,↓reduceIte,Na,Nb,Nc,Nk,Nf,Ng,Nh,Za,Zb,Zc,TT]
  intro o2 ho2
  have hp2 := some_ne h ho2
  refine hK _ _ ?_;clear hK K
  refine wK fun K1 hK1 => ?_
  obtain ⟨z, hz⟩ : ∃ z : List AV, z = [.v (.int .i64 0), .v (.slice none 0 0), .v (.int .u64 0), .v (.slice none 0 0), .v (.slice none 0 0)] := ⟨_, rfl⟩
  have h1 : ∀ (E : Env) (s1 : AS) (o3 : Nat), E 0 = .ptr p 0 → E 2 = .ptr o2 0 → E 3 = .ptr o3 0 → RdS s s1 p o2 o3 (reyeC q1.2) z [.v (.int .i64 q1.1), .v (.slice none 0 0), .v (.int .u64 0), .v (.slice none 0 0), .v (.slice none 0 0)] → K1 E s1 := by
    intro E s1 o3 g0 g2 g3 J
    refine hK1 _ _ ?_;clear hK1 K1
    refine wK fun K2 hK2 => ?_
    have h2 : ∀ (E : Env) (s1 : AS) (c1 : AV), E 0 = .ptr p 0 → E 2 = .ptr o2 0 → E 3 = .ptr o3 0 → c1.weak (bytesV q2.1 .any) → c1.one = true → RdS s s1 p o2 o3 (reyeC q2.2) z [.v (.int .i64 q1.1), c1, .v (.int .u64 0), .v (.slice none 0 0), .v (.slice none 0 0)] → K2 E s1 := by
      clear J g0 g2 g3 E s1
      intro E s1 c1 g0 g2 g3 w1 o1 J
      refine hK2 _ _ ?_;clear hK2 K2
      refine wK fun K3 hK3 => ?_
      have h3 : ∀ (E : Env) (s1 : AS) (c3 : AV), E 0 = .ptr p 0 → E 2 = .ptr o2 0 → E 3 = .ptr o3 0 → c3.weak (bytesV q4.1 .any) → c3.one = true → RdS s s1 p o2 o3 (reyeC q4.2) z [.v (.int .i64 q1.1), c1, .v (.int .u64 q3.1), c3, .v (.slice none 0 0)] → K3 E s1 := by
        clear J g0 g2 g3 E s1
        intro E s1 c3 g0 g2 g3 w3 o3' J
        refine hK3 _ _ ?_;clear hK3 K3
        refine wK fun K4 hK4 => ?_
        have h4 : ∀ (E : Env) (s1 : AS) (c4 : AV), E 0 = .ptr p 0 → E 2 = .ptr o2 0 → E 3 = .ptr o3 0 → c4.weak (intsV q5.1 .any) → c4.one = true → RdS s s1 p o2 o3 (reyeC q5.2) z [.v (.int .i64 q1.1), c1, .v (.int .u64 q3.1), c3, c4] → K4 E s1 := by
          clear J g0 g2 g3 E s1
          intro E s1 c4 g0 g2 g3 w4 o4 J
          simp only [AV.one] at o1 o3' o4
          refine hK4 _ _ ?_;clear hK4 K4
          refine wK fun K5 hK5 => ?_
          have wN : (AV.agg [.v (.int .i64 q1.1), c1, .v (.int .u64 q3.1), c3, c4]).weak (.agg N.cells) := by rw [hN]; exact nodeN_weak w1 w3 w4
          have h5 : ∀ (E : Env) (s1 : AS), E 0 = .ptr p 0 → E 2 = .ptr o2 0 → E 3 = .ptr o3 0 → RdS s s1 p o2 o3 (reyeC (nodeF N q5.2)) z [.v (.int .i64 q1.1), c1, .v (.int .u64 q3.1), c3, c4] → K5 E s1 := by
            clear J g0 g2 g3 E s1
            intro E s1 g0 g2 g3 J
            refine hK5 _ _ ?_;clear hK5 K5
            refine wK fun K6 hK6 => ?_
            have je : s1.objs p = some [.v (.string ⟨(nodeF N q5.2).1.toArray⟩), .v (.int .i64 (nodeF N q5.2).2)] := J.eye
            have jr := J.res
            have jv := J.var
            have jd := J.d
            have jd2 := J.d.symm
            rw [hz] at jr
            by_cases he : (nodeF N q5.2).2 = 0
            · rw [he] at je
              refine wS fun K hK => ?_
              simp only [↓DN,UP,DF,Qa,Qb,Qc,Qd,Qe,Qf,Qg,Qh,reduceCtorEq,↓reduceIte,Na,Nb,Nc,Nk,Nf,Ng,Nh,Za,Zb,Zc,TT, g0, je, i64_ne_false 0 rfl]
              refine hK _ _ ?_;clear hK K
              refine wC fun X Y hX hY => ?_
              simp only [↓DN,UP,DF,Qa,Qb,Qc,Qd,Qe,Qf,Qg,Qh,reduceCtorEq,↓reduceIte,Na,Nb,Nc,Nk,Nf,Ng,Nh,Za,Zb,Zc,TT, DB]
              refine hY ?_;clear hX hY X Y
              refine awp_skip ?_
              refine hK6 _ _ ?_;clear hK6 K6
              refine wS fun K hK => ?_
              simp only [↓DN,UP,DF,Qa,Qb,Qc,Qd,Qe,Qf,Qg,Qh,reduceCtorEq,↓reduceIte,Na,Nb,Nc,Nk,Nf,Ng,Nh,Za,Zb,Zc,TT, g3, g2, jv, jr, jd, jd2, o1, o3', o4]
              refine hK _ _ ?_;clear hK K
              refine awp_ret ?_
              refine aends_cell (o := o2) (off := 0) (by simp only [upd, g2, Nc, ↓reduceIte]) (AS.set_objs_same _ _ _) (by rw [T.c68]; decide) (by simp only [↓DN,UP,DF,Qa,Qb,Qc,Qd,Qe,Qf,Qg,Qh,reduceCtorEq,↓reduceIte,Na,Nb,Nc,Nk,Nf,Ng,Nh,Za,Zb,Zc,TT]; rfl) ?_
              rw [hrr, if_pos he]
              exact ⟨_, _, wN, (J.setRes _).out, rfl, rfl⟩
            · refine wS fun K hK => ?_
              simp only [↓DN,UP,DF,Qa,Qb,Qc,Qd,Qe,Qf,Qg,Qh,reduceCtorEq,↓reduceIte,Na,Nb,Nc,Nk,Nf,Ng,Nh,Za,Zb,Zc,TT, g0, je, i64_ne_true _ he]
              refine hK _ _ ?_;clear hK K
              refine wC fun X Y hX hY => ?_
              simp only [↓DN,UP,DF,Qa,Qb,Qc,Qd,Qe,Qf,Qg,Qh,reduceCtorEq,↓reduceIte,Na,Nb,Nc,Nk,Nf,Ng,Nh,Za,Zb,Zc,TT, DB]
              refine hX ?_;clear hX hY X Y
              refine wS fun K hK => ?_
              simp only [↓DN,UP,DF,Qa,Qb,Qc,Qd,Qe,Qf,Qg,Qh,reduceCtorEq,↓reduceIte,Na,Nb,Nc,Nk,Nf,Ng,Nh,Za,Zb,Zc,TT, g3, g2, jv, jr, jd, jd2, o1, o3', o4]
              refine hK _ _ ?_;clear hK K
              refine awp_ret ?_
              refine aends_cell (o := o2) (off := 0) (by simp only [upd, g2, Nc, ↓reduceIte]) (AS.set_objs_same _ _ _) (by rw [T.c68]; decide) (by simp only [↓DN,UP,DF,Qa,Qb,Qc,Qd,Qe,Qf,Qg,Qh,reduceCtorEq,↓reduceIte,Na,Nb,Nc,Nk,Nf,Ng,Nh,Za,Zb,Zc,TT]; rfl) ?_
              rw [hrr, if_neg he]
              exact ⟨_, _, noughtN_weak, (J.setRes _).out, rfl, rfl⟩
          clear hK5
          have jv := J.var
          have je : s1.objs p = some [.v (.string ⟨q5.2.1.toArray⟩), .v (.int .i64 q5.2.2)] := J.eye
          have hno : nodeF N q5.2 = q5.2 → ∀ (E : Env), E 0 = .ptr p 0 → E 2 = .ptr o2 0 → E 3 = .ptr o3 0 → K5 E s1 := by
            intro e E g0 g2 g3
            rw [e] at h5
            exact h5 _ _ g0 g2 g3 J
          by_cases he : q5.2.2 = 0
          · rw [he] at je
            refine wS fun K hK => ?_
            simp only [↓DN,UP,DF,Qa,Qb,Qc,Qd,Qe,Qf,Qg,Qh,reduceCtorEq,↓reduceIte,Na,Nb,Nc,Nk,Nf,Ng,Nh,Za,Zb,Zc,TT, g0, je, i64_eq_true 0 rfl, g3, jv]
            refine acallk (ACalls.weaks (.cons wN .nil) (refRight19_calls N (by rw [hN]; simp only; omega) s1)) ?_
            rintro r s2 ⟨rfl, rfl⟩
            by_cases hr : N.right
            · rw [decide_eq_true hr]
              simp only [↓AXq_nil,↓AXq_cons,pval,DX,Nat.reduceBEq,↓DN,UP,DF,Qa,Qb,Qc,Qd,Qe,Qf,Qg,Qh,reduceCtorEq,↓reduceIte,Na,Nb,Nc,Nk,Nf,Ng,Nh,Za,Zb,Zc,TT]
              refine hK _ _ ?_;clear hK K
              refine wC fun X Y hX hY => ?_
              simp only [↓DN,UP,DF,Qa,Qb,Qc,Qd,Qe,Qf,Qg,Qh,reduceCtorEq,↓reduceIte,Na,Nb,Nc,Nk,Nf,Ng,Nh,Za,Zb,Zc,TT, DB]
              refine hY ?_;clear hX hY X Y
              refine awp_skip ?_
              exact hno (nodeF_right hr _) _ (by simp only [upd, g0, Nc, ↓reduceIte]) (by simp only [upd, g2, Nc, ↓reduceIte]) (by simp only [upd, g3, Nc, ↓reduceIte])
            · rw [decide_eq_false hr]
              simp only [↓AXq_nil,↓AXq_cons,pval,DX,Nat.reduceBEq,↓DN,UP,DF,Qa,Qb,Qc,Qd,Qe,Qf,Qg,Qh,reduceCtorEq,↓reduceIte,Na,Nb,Nc,Nk,Nf,Ng,Nh,Za,Zb,Zc,TT]
              refine hK _ _ ?_;clear hK K
              refine wC fun X Y hX hY => ?_
              simp only [↓DN,UP,DF,Qa,Qb,Qc,Qd,Qe,Qf,Qg,Qh,reduceCtorEq,↓reduceIte,Na,Nb,Nc,Nk,Nf,Ng,Nh,Za,Zb,Zc,TT, DB]
              refine hX ?_;clear hX hY X Y
              refine wE fun K hK => ?_
              simp only [↓DN,UP,DF,Qa,Qb,Qc,Qd,Qe,Qf,Qg,Qh,reduceCtorEq,↓reduceIte,Na,Nb,Nc,Nk,Nf,Ng,Nh,Za,Zb,Zc,TT, g0, je]
              refine hK _ _ ?_
              rw [nodeF_wrong hr, if_pos he] at h5
              exact h5 _ _ (by simp only [upd, g0, Nc, ↓reduceIte]) (by simp only [upd, g2, Nc, ↓reduceIte]) (by simp only [upd, g3, Nc, ↓reduceIte]) (J.setEye _)
          · refine wS fun K hK => ?_
            simp only [↓DN,UP,DF,Qa,Qb,Qc,Qd,Qe,Qf,Qg,Qh,reduceCtorEq,↓reduceIte,Na,Nb,Nc,Nk,Nf,Ng,Nh,Za,Zb,Zc,TT, g0, je, i64_eq_false _ he]
            refine hK _ _ ?_;clear hK K
            refine wC fun X Y hX hY => ?_
            simp only [↓DN,UP,DF,Qa,Qb,Qc,Qd,Qe,Qf,Qg,Qh,reduceCtorEq,↓reduceIte,Na,Nb,Nc,Nk,Nf,Ng,Nh,Za,Zb,Zc,TT, DB]
            refine hY ?_;clear hX hY X Y
            refine awp_skip ?_
            exact hno (by unfold nodeF; rw [if_neg (fun k => he k.2)]) _ (by simp only [upd, g0, Nc, ↓reduceIte]) (by simp only [upd, g2, Nc, ↓reduceIte]) (by simp only [upd, g3, Nc, ↓reduceIte])
        clear hK4
        have jv := J.var
        by_cases hk : q1.1 = 2
        · refine wS fun K hK => ?_
          simp only [↓DN,UP,DF,Qa,Qb,Qc,Qd,Qe,Qf,Qg,Qh,reduceCtorEq,↓reduceIte,Na,Nb,Nc,Nk,Nf,Ng,Nh,Za,Zb,Zc,TT, g3, jv, int_eq_yes (show ((q1.1 : Nat) : Int) = 2 by omega)]
          refine hK _ _ ?_;clear hK K
          refine wC fun X Y hX hY => ?_
          simp only [↓DN,UP,DF,Qa,Qb,Qc,Qd,Qe,Qf,Qg,Qh,reduceCtorEq,↓reduceIte,Na,Nb,Nc,Nk,Nf,Ng,Nh,Za,Zb,Zc,TT, DB]
          refine hX ?_;clear hX hY X Y
          refine wS fun K hK => ?_
          simp only [↓DN,UP,DF,Qa,Qb,Qc,Qd,Qe,Qf,Qg,Qh,reduceCtorEq,↓reduceIte,Na,Nb,Nc,Nk,Nf,Ng,Nh,Za,Zb,Zc,TT, g0]
          refine acallk (reyeNumber_set _ p _ 1 (by omega) (by have := l4; omega) J.eye) ?_
          rintro r s2 ⟨rfl, rfl⟩
          have hq5 : q5 = eyeInts (eyeNum 1 q4.2).1 (eyeNum 1 q4.2).2 := by rw [e5]; exact if_pos hk
          obtain ⟨qc, hqc⟩ : ∃ q, q = eyeNum 1 q4.2 := ⟨_, rfl⟩
          have J2 := J.setEye (reyeC (eyeNum 1 q4.2).2)
          rw [← hqc] at hq5 J2 ⊢
          obtain ⟨s3, hs3⟩ : ∃ x, x = s1.set p (reyeC qc.2) := ⟨_, rfl⟩
          rw [← hs3] at J2 ⊢
          have hc256 : qc.1 < 256 := by rw [hqc]; exact Nat.lt_of_lt_of_le (eyeNum_lt 1 _) (by decide)
          have hqcl : qc.2.1.length ≤ 2 ^ 44 := by rw [hqc]; exact Nat.le_trans (eyeNum_len _ _) l4
          simp only [↓AXq_nil,↓AXq_cons,pval,DX,Nat.reduceBEq,↓DN,UP,DF,Qa,Qb,Qc,Qd,Qe,Qf,Qg,Qh,reduceCtorEq,↓reduceIte,Na,Nb,Nc,Nk,Nf,Ng,Nh,Za,Zb,Zc,TT, i64_conv (show qc.1 < 2 ^ 62 by omega)]
          refine hK _ _ ?_;clear hK K
          refine wS fun K hK => ?_
          simp only [↓DN,UP,DF,Qa,Qb,Qc,Qd,Qe,Qf,Qg,Qh,reduceCtorEq,↓reduceIte,Na,Nb,Nc,Nk,Nf,Ng,Nh,Za,Zb,Zc,TT]
          refine hK _ _ ?_;clear hK K
          refine awp_block ?_
          refine awp_loop (fun E s2 => ∃ (i : Nat) (x : AV), i ≤ qc.1 ∧ E 5 = .v (.int .i64 i) ∧ E 4 = .v (.int .i64 qc.1) ∧ E 0 = .ptr p 0 ∧ E 2 = .ptr o2 0 ∧ E 3 = .ptr o3 0 ∧ IBuf s s2 x (eyeInts i qc.2).1 ∧
              RdS s s2 p o2 o3 (reyeC (eyeInts i qc.2).2) z [.v (.int .i64 q1.1), c1, .v (.int .u64 q3.1), c3, x])
            (fun E _ => match E 5 with | .v (.int _ i) => qc.1 - i.toNat | _ => 0) ?_ ?_
          · exact ⟨0, _, Nat.zero_le _, by simp only [upd, ↓reduceIte]; rfl, by simp only [upd, Nc, ↓reduceIte], by simp only [upd, g0, Nc, ↓reduceIte], by simp only [upd, g2, Nc, ↓reduceIte], by simp only [upd, g3, Nc, ↓reduceIte], .inl ⟨rfl, rfl⟩, J2⟩
          · clear J J2 g0 g2 g3 jv
            rintro E1 s4 ⟨i, x, hi, g5, g4, g0, g2, g3, hx, J⟩ -
            have jv := J.var
            have jp := J.p3
            have jp2 := J.p3.symm
            refine wK fun K7 hK7 => ?_
            by_cases hi' : i < qc.1
            · refine wS fun K hK => ?_
              simp only [↓DN,UP,DF,Qa,Qb,Qc,Qd,Qe,Qf,Qg,Qh,reduceCtorEq,↓reduceIte,Na,Nb,Nc,Nk,Nf,Ng,Nh,Za,Zb,Zc,TT, g5, g4, eye_lt_nat, decide_eq_true hi']
              refine hK _ _ ?_;clear hK K
              refine wC fun X Y hX hY => ?_
              simp only [↓DN,UP,DF,Qa,Qb,Qc,Qd,Qe,Qf,Qg,Qh,reduceCtorEq,↓reduceIte,Na,Nb,Nc,Nk,Nf,Ng,Nh,Za,Zb,Zc,TT, DB]
              refine hX ?_;clear hX hY X Y
              refine awp_skip ?_
              refine hK7 _ _ ?_;clear hK7 K7
              refine wK fun K7 hK7 => ?_
              refine awp_block ?_
              have hnext : ∀ (E2 : Env) (s5 : AS) (x2 : AV), E2 5 = .v (.int .i64 i) → E2 4 = .v (.int .i64 qc.1) → E2 0 = .ptr p 0 → E2 2 = .ptr o2 0 → E2 3 = .ptr o3 0 → IBuf s s5 x2 (eyeInts (i + 1) qc.2).1 →
                  RdS s s5 p o2 o3 (reyeC (eyeInts (i + 1) qc.2).2) z [.v (.int .i64 q1.1), c1, .v (.int .u64 q3.1), c3, x2] → K7 E2 s5 := by
                intro E2 s5 x2 f5 f4 f0 f2 f3 fx fJ
                refine hK7 _ _ ?_;clear hK7 K7
                refine wE fun K hK => ?_
                simp only [↓DN,UP,DF,Qa,Qb,Qc,Qd,Qe,Qf,Qg,Qh,reduceCtorEq,↓reduceIte,Na,Nb,Nc,Nk,Nf,Ng,Nh,Za,Zb,Zc,TT, f5, eye_succ i (by omega)]
                refine hK _ _ ?_;clear hK K
                refine ⟨⟨i + 1, x2, by omega, by simp only [upd, ↓reduceIte], by simp only [upd, f4, Nc, ↓reduceIte], by simp only [upd, f0, Nc, ↓reduceIte], by simp only [upd, f2, Nc, ↓reduceIte], by simp only [upd, f3, Nc, ↓reduceIte], fx, fJ⟩, ?_⟩
                simp only [g5, upd, ↓reduceIte]
                omega
              clear hK7
              have hil := eyeInts_len i qc.2
              rcases hx with ⟨rfl, hl0⟩ | ⟨t, e, rfl, ht, ht0⟩
              · refine awp_mrk_end T.mixed [(o3, [.v (.int .i64 q1.1), c1, .v (.int .u64 q3.1), c3, nilS])] [3, 6] [1] [8] (by kernel_rfl) (by simp only [Pres_cons, Pres_nil, and_true]; simp [AS.set, upd, jv]) ?_
                intro K hK
                simp only [↓AXr_nil, ↓AXr_cons, gval, lval, fzGet_cons, fzGet_nil, Pres_cons, Pres_nil, List.any_cons, List.any_nil, List.contains_cons, List.contains_nil, Nat.reduceBEq, Bool.or_false, Bool.or_true, Bool.or_self, Bool.false_or, ↓DN,UP,DF,Qa,Qb,Qc,Qd,Qe,Qf,Qg,Qh,reduceCtorEq,↓reduceIte,Na,Nb,Nc,Nk,Nf,Ng,Nh,Za,Zb,Zc,TT, g3, g0, nilS, jv, jp, jp2]
                refine acallk (reyeNumber_set _ p _ 1 (by omega) (by have := eyeInts_left i qc.2; have := hqcl; omega) J.eye) ?_
                rintro r s6 ⟨rfl, rfl⟩
                have hcx := i64_conv (show (eyeNum 1 (eyeInts i qc.2).2).1 < 2 ^ 62 from Nat.lt_trans (eyeNum_lt 1 _) (by decide))
                simp only [↓AXq_nil, ↓AXq_cons, pval, ↓AXr_nil, ↓AXr_cons, gval, lval, fzGet_cons, fzGet_nil, Pres_cons, Pres_nil, List.any_cons, List.any_nil, DX, Nat.reduceBEq, ↓DN,UP,DF,Qa,Qb,Qc,Qd,Qe,Qf,Qg,Qh,reduceCtorEq,↓reduceIte,Na,Nb,Nc,Nk,Nf,Ng,Nh,Za,Zb,Zc,TT, g3, g0, jv, jp, jp2, List.replicate_succ, nilS, hcx]
                intro t ht
                refine hK _ _ (hnext _ _ _ (by simp only [upd, g5, Nc, ↓reduceIte]) (by simp only [upd, g4, Nc, ↓reduceIte]) (by simp only [upd, g0, Nc, ↓reduceIte]) (by simp only [upd, g2, Nc, ↓reduceIte]) (by simp only [upd, g3, Nc, ↓reduceIte]) ?_ (((J.setEye _).gain (J.own_none ht) 0).setVar _))
                refine .inr ⟨t, 0, ?_, by simp [AS.set, AS.gain], J.own_none ht⟩
                simp [intsV, eyeInts, hl0, intC]
              · refine awp_mrk_end T.mixed [(o3, [.v (.int .i64 q1.1), c1, .v (.int .u64 q3.1), c3, intsV (eyeInts i qc.2).1 (.own t e)])] [3, 6] [1] [8] (by kernel_rfl) (by simp only [Pres_cons, Pres_nil, and_true]; simp [AS.set, upd, jv]) ?_
                intro K hK
                simp only [↓AXr_nil, ↓AXr_cons, gval, lval, fzGet_cons, fzGet_nil, Pres_cons, Pres_nil, List.any_cons, List.any_nil, List.contains_cons, List.contains_nil, Nat.reduceBEq, Bool.or_false, Bool.or_true, Bool.or_self, Bool.false_or, ↓DN,UP,DF,Qa,Qb,Qc,Qd,Qe,Qf,Qg,Qh,reduceCtorEq,↓reduceIte,Na,Nb,Nc,Nk,Nf,Ng,Nh,Za,Zb,Zc,TT, g3, g0, intsV, jv, jp, jp2]
                refine acallk (reyeNumber_set _ p _ 1 (by omega) (by have := eyeInts_left i qc.2; have := hqcl; omega) J.eye) ?_
                rintro r s6 ⟨rfl, rfl⟩
                have hcx := i64_conv (show (eyeNum 1 (eyeInts i qc.2).2).1 < 2 ^ 62 from Nat.lt_trans (eyeNum_lt 1 _) (by decide))
                simp only [↓AXq_nil, ↓AXq_cons, pval, ↓AXr_nil, ↓AXr_cons, gval, lval, fzGet_cons, fzGet_nil, Pres_cons, Pres_nil, List.any_cons, List.any_nil, DX, Nat.reduceBEq, ↓DN,UP,DF,Qa,Qb,Qc,Qd,Qe,Qf,Qg,Qh,reduceCtorEq,↓reduceIte,Na,Nb,Nc,Nk,Nf,Ng,Nh,Za,Zb,Zc,TT, g3, g0, jv, jp, jp2, List.replicate_succ, ht, intsV, hcx]
                refine ⟨by omega, by omega, hK _ _ (hnext _ _ _ (by simp only [upd, g5, Nc, ↓reduceIte]) (by simp only [upd, g4, Nc, ↓reduceIte]) (by simp only [upd, g0, Nc, ↓reduceIte]) (by simp only [upd, g2, Nc, ↓reduceIte]) (by simp only [upd, g3, Nc, ↓reduceIte]) ?_ (((J.setEye _).gain ht0 (e + 1)).setVar _))⟩
                refine .inr ⟨t, e + 1, ?_, by simp [AS.set, AS.gain], ht0⟩
                simp [intsV, eyeInts, intC]
            · refine wS fun K hK => ?_
              simp only [↓DN,UP,DF,Qa,Qb,Qc,Qd,Qe,Qf,Qg,Qh,reduceCtorEq,↓reduceIte,Na,Nb,Nc,Nk,Nf,Ng,Nh,Za,Zb,Zc,TT, g5, g4, eye_lt_nat, decide_eq_false hi']
              refine hK _ _ ?_;clear hK K
              refine wC fun X Y hX hY => ?_
              simp only [↓DN,UP,DF,Qa,Qb,Qc,Qd,Qe,Qf,Qg,Qh,reduceCtorEq,↓reduceIte,Na,Nb,Nc,Nk,Nf,Ng,Nh,Za,Zb,Zc,TT, DB]
              refine hY ?_;clear hX hY X Y
              refine awp_exit ?_
              simp only [thenQ, blockQ, if_true]
              obtain rfl : i = qc.1 := by omega
              rw [← hq5] at hx J
              exact h4 _ _ _ (by simp only [upd, g0, Nc, ↓reduceIte]) (by simp only [upd, g2, Nc, ↓reduceIte]) (by simp only [upd, g3, Nc, ↓reduceIte]) (IBuf.weak hx) (IBuf.one hx) J
        · refine wS fun K hK => ?_
          simp only [↓DN,UP,DF,Qa,Qb,Qc,Qd,Qe,Qf,Qg,Qh,reduceCtorEq,↓reduceIte,Na,Nb,Nc,Nk,Nf,Ng,Nh,Za,Zb,Zc,TT, g3, jv, int_eq_no (show ((q1.1 : Nat) : Int) ≠ 2 by omega)]
          refine hK _ _ ?_;clear hK K
          refine wC fun X Y hX hY => ?_
          simp only [↓DN,UP,DF,Qa,Qb,Qc,Qd,Qe,Qf,Qg,Qh,reduceCtorEq,↓reduceIte,Na,Nb,Nc,Nk,Nf,Ng,Nh,Za,Zb,Zc,TT, DB]
          refine hY ?_;clear hX hY X Y
          refine awp_skip ?_
          have hq5 : q5 = ([], q4.2) := by rw [e5]; exact if_neg hk
          rw [hq5] at h4
          exact h4 _ _ _ (by simp only [upd, g0, Nc, ↓reduceIte]) (by simp only [upd, g2, Nc, ↓reduceIte]) (by simp only [upd, g3, Nc, ↓reduceIte]) AV.weak_nil rfl J
      clear hK3
      have jv := J.var
      have jp := J.p3
      have jp2 := J.p3.symm
      have hgo : (q1.1 = 1 ∨ q1.1 = 2) → ∀ (E : Env), E 0 = .ptr p 0 → E 2 = .ptr o2 0 → E 3 = .ptr o3 0 → ∀ (a b : Bool), (a || b) = true → (a = ((q1.1 : Int) == 1)) → True := fun _ _ _ _ _ _ _ _ _ => trivial
      clear hgo
      rcases tt2 ((q1.1 : Int) == 1) ((q1.1 : Int) == 2) with hd | hd | hd
      case inr.inr =>
        refine wS fun K hK => ?_
        simp only [↓DN,UP,DF,Qa,Qb,Qc,Qd,Qe,Qf,Qg,Qh,reduceCtorEq,↓reduceIte,Na,Nb,Nc,Nk,Nf,Ng,Nh,Za,Zb,Zc,TT, g3, jv, hd]
        refine hK _ _ ?_;clear hK K
        refine wC fun X Y hX hY => ?_
        simp only [↓DN,UP,DF,Qa,Qb,Qc,Qd,Qe,Qf,Qg,Qh,reduceCtorEq,↓reduceIte,Na,Nb,Nc,Nk,Nf,Ng,Nh,Za,Zb,Zc,TT, DB]
        refine hY ?_;clear hX hY X Y
        refine awp_skip ?_
        simp only [beq_eq_false_iff_ne, ne_eq] at hd
        have hq3 : q3 = (0, q2.2) := by rw [e3]; exact if_neg (by omega)
        have hq4 : q4 = ([], q2.2) := by rw [e4, hq3]; exact if_neg (by omega)
        rw [hq4] at h3
        rw [hq3] at h3
        exact h3 _ _ _ (by simp only [upd, g0, Nc, ↓reduceIte]) (by simp only [upd, g2, Nc, ↓reduceIte]) (by simp only [upd, g3, Nc, ↓reduceIte]) AV.weak_nil rfl J
      all_goals
        refine wS fun K hK => ?_
        simp only [↓DN,UP,DF,Qa,Qb,Qc,Qd,Qe,Qf,Qg,Qh,reduceCtorEq,↓reduceIte,Na,Nb,Nc,Nk,Nf,Ng,Nh,Za,Zb,Zc,TT, g3, jv, hd]
        refine hK _ _ ?_;clear hK K
        refine wC fun X Y hX hY => ?_
        simp only [↓DN,UP,DF,Qa,Qb,Qc,Qd,Qe,Qf,Qg,Qh,reduceCtorEq,↓reduceIte,Na,Nb,Nc,Nk,Nf,Ng,Nh,Za,Zb,Zc,TT, DB]
        refine hX ?_;clear hX hY X Y
        simp only [beq_eq_false_iff_ne, ne_eq, beq_iff_eq] at hd
        have hq3 : q3 = eyeNum 8 q2.2 := by rw [e3]; exact if_pos (by omega)
        have hq4 : q4 = eyeText 1 32 q3.2 := by rw [e4]; exact if_pos (by omega)
        refine wS fun K hK => ?_
        simp only [↓DN,UP,DF,Qa,Qb,Qc,Qd,Qe,Qf,Qg,Qh,reduceCtorEq,↓reduceIte,Na,Nb,Nc,Nk,Nf,Ng,Nh,Za,Zb,Zc,TT, g0]
        refine acallk (reyeNumber_set _ p _ 8 (by omega) (by have := l2; omega) J.eye) ?_
        rintro r s2 ⟨rfl, rfl⟩
        rw [← hq3]
        simp only [↓AXq_nil, ↓AXq_cons, pval, ↓AXr_nil, ↓AXr_cons, gval, lval, fzGet_cons, fzGet_nil, Pres_cons, Pres_nil, List.any_cons, List.any_nil, DX, Nat.reduceBEq, ↓DN,UP,DF,Qa,Qb,Qc,Qd,Qe,Qf,Qg,Qh,reduceCtorEq,↓reduceIte,Na,Nb,Nc,Nk,Nf,Ng,Nh,Za,Zb,Zc,TT, g3, jv, jp, jp2]
        refine hK _ _ ?_;clear hK K
        have J2 := (J.setEye (reyeC q3.2)).setVar [.v (.int .i64 q1.1), c1, .v (.int .u64 q3.1), .v (.slice none 0 0), .v (.slice none 0 0)]
        refine wE fun K hK => ?_
        simp only [↓DN,UP,DF,Qa,Qb,Qc,Qd,Qe,Qf,Qg,Qh,reduceCtorEq,↓reduceIte,Na,Nb,Nc,Nk,Nf,Ng,Nh,Za,Zb,Zc,TT, g0]
        refine acallk (reyeText_set _ p _ 1 32 (by omega) (by have := l3; omega) J2.eye) ?_
        rintro r s3 ⟨rfl, rfl⟩
        rw [← hq4]
        simp only [↓AXq_nil,↓AXq_cons,pval,DX,Nat.reduceBEq,↓DN,UP,DF,Qa,Qb,Qc,Qd,Qe,Qf,Qg,Qh,reduceCtorEq,↓reduceIte,Na,Nb,Nc,Nk,Nf,Ng,Nh,Za,Zb,Zc,TT, g3, jv, jp, jp2]
        refine hK _ _ (h3 _ _ _ (by simp only [upd, g0, Nc, ↓reduceIte]) (by simp only [upd, g2, Nc, ↓reduceIte]) (by simp only [upd, g3, Nc, ↓reduceIte]) AV.weak_any rfl ((J2.setEye (reyeC q4.2)).setVar _))
    clear hK2
    have jv := J.var
    have jp := J.p3
    have jp2 := J.p3.symm
    by_cases hk : q1.1 = 1
    · refine wS fun K hK => ?_
      simp only [↓DN,UP,DF,Qa,Qb,Qc,Qd,Qe,Qf,Qg,Qh,reduceCtorEq,↓reduceIte,Na,Nb,Nc,Nk,Nf,Ng,Nh,Za,Zb,Zc,TT, g3, jv, int_eq_yes (show ((q1.1 : Nat) : Int) = 1 by omega)]
      refine hK _ _ ?_;clear hK K
      refine wC fun X Y hX hY => ?_
      simp only [↓DN,UP,DF,Qa,Qb,Qc,Qd,Qe,Qf,Qg,Qh,reduceCtorEq,↓reduceIte,Na,Nb,Nc,Nk,Nf,Ng,Nh,Za,Zb,Zc,TT, DB]
      refine hX ?_;clear hX hY X Y
      have hq2 : q2 = eyeText 1 16 q1.2 := by rw [e2]; exact if_pos hk
      refine wE fun K hK => ?_
      simp only [↓DN,UP,DF,Qa,Qb,Qc,Qd,Qe,Qf,Qg,Qh,reduceCtorEq,↓reduceIte,Na,Nb,Nc,Nk,Nf,Ng,Nh,Za,Zb,Zc,TT, g0]
      refine acallk (reyeText_set _ p _ 1 16 (by omega) (by have := l1; omega) J.eye) ?_
      rintro r s3 ⟨rfl, rfl⟩
      rw [← hq2]
      simp only [↓AXq_nil,↓AXq_cons,pval,DX,Nat.reduceBEq,↓DN,UP,DF,Qa,Qb,Qc,Qd,Qe,Qf,Qg,Qh,reduceCtorEq,↓reduceIte,Na,Nb,Nc,Nk,Nf,Ng,Nh,Za,Zb,Zc,TT, g3, jv, jp, jp2]
      exact hK _ _ (h2 _ _ _ (by simp only [upd, g0, Nc, ↓reduceIte]) (by simp only [upd, g2, Nc, ↓reduceIte]) (by simp only [upd, g3, Nc, ↓reduceIte]) AV.weak_any rfl ((J.setEye (reyeC q2.2)).setVar _))
    · refine wS fun K hK => ?_
      simp only [↓DN,UP,DF,Qa,Qb,Qc,Qd,Qe,Qf,Qg,Qh,reduceCtorEq,↓reduceIte,Na,Nb,Nc,Nk,Nf,Ng,Nh,Za,Zb,Zc,TT, g3, jv, int_eq_no (show ((q1.1 : Nat) : Int) ≠ 1 by omega)]
      refine hK _ _ ?_;clear hK K
      refine wC fun X Y hX hY => ?_
      simp only [↓DN,UP,DF,Qa,Qb,Qc,Qd,Qe,Qf,Qg,Qh,reduceCtorEq,↓reduceIte,Na,Nb,Nc,Nk,Nf,Ng,Nh,Za,Zb,Zc,TT, DB]
      refine hY ?_;clear hX hY X Y
      refine awp_skip ?_
      have hq2 : q2 = ([], q1.2) := by rw [e2]; exact if_neg hk
      rw [hq2] at h2
      exact h2 _ _ _ (by simp only [upd, g0, Nc, ↓reduceIte]) (by simp only [upd, g2, Nc, ↓reduceIte]) (by simp only [upd, g3, Nc, ↓reduceIte]) AV.weak_nil rfl J
  clear hK1
  refine wE fun K hK => ?_
  simp only [↓DN,UP,DF,Qa,Qb,Qc,Qd,Qe,Qf,Qg,Qh,reduceCtorEq,↓reduceIte,Na,Nb,Nc,Nk,Nf,Ng,Nh,Za,Zb,Zc,TT]
  refine acallk (reyeNumber_set _ p st 1 (by omega) (by omega) (by rw [AS.set_objs_ne _ hp2]; exact h)) ?_
  rintro r s1 ⟨rfl, rfl⟩
  rw [← e1]
  simp only [↓AXq_nil,↓AXq_cons,pval,DX,Nat.reduceBEq,↓DN,UP,DF,Qa,Qb,Qc,Qd,Qe,Qf,Qg,Qh,reduceCtorEq,↓reduceIte,Na,Nb,Nc,Nk,Nf,Ng,Nh,Za,Zb,Zc,TT, i64_conv (show q1.1 < 2 ^ 62 by omega)]
  intro o3 ho3
  have hp3 : o3 ≠ p := by
    rintro rfl
    simp at ho3
  have h32 : o3 ≠ o2 := by
    rintro rfl
    simp [hp2.symm] at ho3
  have ho30 : s.objs o3 = none := by simpa [hp3, h32] using ho3
  refine hK _ _ (h1 _ _ o3 (by simp only [upd, initE, Nc, ↓reduceIte, List.getD_cons_zero]) (by simp only [upd, Nc, ↓reduceIte]) (by simp only [upd, Nc, ↓reduceIte]) ?_)
  refine ⟨AS.le_set (AS.le_set (AS.le_set (AS.drop_le s p) (AS.drop_objs_none ho2) _) (AS.drop_self _ _) _) (AS.drop_objs_none ho30) _, ?_, ?_, AS.set_objs_same _ _ _, ho2, ho30, hp2, hp3.symm, h32.symm⟩
  · rw [AS.set_objs_ne _ hp3.symm, AS.set_objs_same]
  · rw [AS.set_objs_ne _ h32.symm, AS.set_objs_ne _ hp2.symm, AS.set_objs_same, hz]

end Go.Proofs.YtcnilmidfhpckaaGreatDoor


set_option autoImplicit false
namespace Go.Proofs.YtcnilmidfhpckaaGreatDoor
open Go Go.AM Go.Proofs


variable {Γ : Nat → List AV}

set_option maxHeartbeats 1000000 in
theorem refLeaves_calls (t : List NodeV) (ht : t.length ≤ 2 ^ 61) (s : AS) : ACalls Tryz.prog Γ 38 [treeV t] s (fun r s' => r = .v (.int .i64 (lvs t)) ∧ s' = s) := by
  refine acalls_body Tryz.func38 rfl Tryz.ntmps38 Tryz.results38 (by simp) ?_
  unfold treeV
  generalize rowC NodeV.cells t = X at *
  refine wS fun K hK => ?_
  simp only [↓DN,UP,DF,Qa,Qb,Qc,Qd,Qe,Qf,Qg,Qh,reduceCtorEq,↓reduceIte,Na,Nb,Nc,Nk,Nf,Ng,Nh,Za,Zb,Zc,TT]
  refine hK _ _ ?_;clear hK K
  refine wK fun K hK => ?_
  refine wS fun K hK => ?_
  simp only [↓DN,UP,DF,Qa,Qb,Qc,Qd,Qe,Qf,Qg,Qh,reduceCtorEq,↓reduceIte,Na,Nb,Nc,Nk,Nf,Ng,Nh,Za,Zb,Zc,TT]
  refine hK _ _ ?_;clear hK K
  refine awp_block ?_
  refine awp_loop (fun E s2 => ∃ j : Nat, j ≤ 6 ∧ (∀ k, k < j → t.length ≠ 2 * 2 ^ k - 1) ∧ E 3 = .v (.int .i64 ((2 ^ j : Nat) : Int)) ∧ E 0 = .sl 5 t.length X .any ∧ s2 = s)
    (fun E _ => match E 3 with | .v (.int _ i) => 100 - i.toNat | _ => 0) ?_ ?_
  · exact ⟨0, by omega, fun k h => absurd h (Nat.not_lt_zero _), by simp only [upd, Nc, ↓reduceIte]; rfl, by simp only [upd, initE, List.getD_cons_zero, List.getD_cons_succ, Nc, ↓reduceIte], rfl⟩
  · rintro E1 s2 ⟨j, hj, hall, g3, g0, rfl⟩ -
    refine wK fun K2 hK2 => ?_
    by_cases hj' : j ≤ 5
    · have hp := pow_le5 hj'
      have e1 : imul .i64 2 ((2 ^ j : Nat) : Int) = ((2 * 2 ^ j : Nat) : Int) := imul2_nat _ (by omega)
      have e2 : isub .i64 ((2 * 2 ^ j : Nat) : Int) 1 = ((2 * 2 ^ j - 1 : Nat) : Int) := by rw [isub_i64 (by omega)]; omega
      have e3 : imul .i64 ((2 ^ j : Nat) : Int) 2 = ((2 ^ (j + 1) : Nat) : Int) := by rw [imul_i64 (by omega), Nat.pow_succ]; omega
      have h1 : decide (((2 ^ j : Nat) : Int) ≤ 32) = true := decide_eq_true (by omega)
      generalize hP : 2 ^ j = P at *
      refine wS fun K hK => ?_
      simp only [↓DN,UP,DF,Qa,Qb,Qc,Qd,Qe,Qf,Qg,Qh,reduceCtorEq,↓reduceIte,Na,Nb,Nc,Nk,Nf,Ng,Nh,Za,Zb,Zc,TT, g3, h1]
      refine hK _ _ ?_;clear hK K
      refine wC fun X Y hX hY => ?_
      simp only [↓DN,UP,DF,Qa,Qb,Qc,Qd,Qe,Qf,Qg,Qh,reduceCtorEq,↓reduceIte,Na,Nb,Nc,Nk,Nf,Ng,Nh,Za,Zb,Zc,TT, DB]
      refine hX ?_;clear hX hY X Y
      refine awp_skip ?_
      refine hK2 _ _ ?_;clear hK2 K2
      refine wK fun K3 hK3 => ?_
      refine awp_block ?_
      by_cases he : t.length = 2 * P - 1
      · refine wS fun K hK => ?_
        simp only [↓DN,UP,DF,Qa,Qb,Qc,Qd,Qe,Qf,Qg,Qh,reduceCtorEq,↓reduceIte,Na,Nb,Nc,Nk,Nf,Ng,Nh,Za,Zb,Zc,TT, g0, g3, e1, e2, natN he]
        refine hK _ _ ?_;clear hK K
        refine wC fun X Y hX hY => ?_
        simp only [↓DN,UP,DF,Qa,Qb,Qc,Qd,Qe,Qf,Qg,Qh,reduceCtorEq,↓reduceIte,Na,Nb,Nc,Nk,Nf,Ng,Nh,Za,Zb,Zc,TT, DB]
        refine hX ?_;clear hX hY X Y
        refine wS fun K hK => ?_
        simp only [↓DN,UP,DF,Qa,Qb,Qc,Qd,Qe,Qf,Qg,Qh,reduceCtorEq,↓reduceIte,Na,Nb,Nc,Nk,Nf,Ng,Nh,Za,Zb,Zc,TT, g3]
        refine hK _ _ ?_;clear hK K
        refine awp_ret ?_
        try simp only [thenQ, blockQ]
        simp only [retQ, AEnds, aresL, ares, List.toList_toArray, ↓upd_same]; try simp only [UP,DF,Nc,↓reduceIte,DT]
        rw [lvs_of (by rw [← hP]; exact fit_pow hj') he]
        exact ⟨_, _, AV.weak.refl _, AS.le.refl _, rfl, rfl⟩
      · refine wS fun K hK => ?_
        simp only [↓DN,UP,DF,Qa,Qb,Qc,Qd,Qe,Qf,Qg,Qh,reduceCtorEq,↓reduceIte,Na,Nb,Nc,Nk,Nf,Ng,Nh,Za,Zb,Zc,TT, g0, g3, e1, e2, natF he]
        refine hK _ _ ?_;clear hK K
        refine wC fun X Y hX hY => ?_
        simp only [↓DN,UP,DF,Qa,Qb,Qc,Qd,Qe,Qf,Qg,Qh,reduceCtorEq,↓reduceIte,Na,Nb,Nc,Nk,Nf,Ng,Nh,Za,Zb,Zc,TT, DB]
        refine hY ?_;clear hX hY X Y
        refine awp_skip ?_
        simp only [blockQ, thenQ, if_true, if_false]
        refine hK3 _ _ ?_;clear hK3 K3
        refine wE fun K hK => ?_
        simp only [↓DN,UP,DF,Qa,Qb,Qc,Qd,Qe,Qf,Qg,Qh,reduceCtorEq,↓reduceIte,Na,Nb,Nc,Nk,Nf,Ng,Nh,Za,Zb,Zc,TT, g3, e3]
        refine hK _ _ ?_;clear hK K
        refine ⟨⟨j + 1, by omega, ?_, by simp only [upd, Nc, ↓reduceIte], by simp only [upd, g0, Nc, ↓reduceIte], rfl⟩, ?_⟩
        · intro k hk
          by_cases e : k = j
          · rw [e, hP]; exact he
          · exact hall k (by omega)
        · have : P < 2 ^ (j + 1) := by rw [Nat.pow_succ, hP]; omega
          simp only [g3, upd, ↓reduceIte]
          omega
    · obtain rfl : j = 6 := by omega
      have h1 : decide (((2 ^ 6 : Nat) : Int) ≤ 32) = false := by decide
      refine wS fun K hK => ?_
      simp only [↓DN,UP,DF,Qa,Qb,Qc,Qd,Qe,Qf,Qg,Qh,reduceCtorEq,↓reduceIte,Na,Nb,Nc,Nk,Nf,Ng,Nh,Za,Zb,Zc,TT, g3, h1]
      refine hK _ _ ?_;clear hK K
      refine wC fun X Y hX hY => ?_
      simp only [↓DN,UP,DF,Qa,Qb,Qc,Qd,Qe,Qf,Qg,Qh,reduceCtorEq,↓reduceIte,Na,Nb,Nc,Nk,Nf,Ng,Nh,Za,Zb,Zc,TT, DB]
      refine hY ?_;clear hX hY X Y
      refine awp_exit ?_
      simp only [thenQ, blockQ, if_true]
      refine hK _ _ ?_;clear hK hK2 K2 K
      refine wS fun K hK => ?_
      simp only [↓DN,UP,DF,Qa,Qb,Qc,Qd,Qe,Qf,Qg,Qh,reduceCtorEq,↓reduceIte,Na,Nb,Nc,Nk,Nf,Ng,Nh,Za,Zb,Zc,TT]
      refine hK _ _ ?_;clear hK K
      refine awp_ret ?_
      try simp only [thenQ, blockQ]
      simp only [retQ, AEnds, aresL, ares, List.toList_toArray, ↓upd_same]; try simp only [UP,DF,Nc,↓reduceIte,DT]
      rw [lvs_none (t := t) (fun n hn => by obtain ⟨m, hm, rfl⟩ := hn.pow; exact hall m (by omega))]
      exact ⟨_, _, AV.weak.refl _, AS.le.refl _, rfl, rfl⟩

set_option maxHeartbeats 1000000 in
theorem refMember_calls (t : List NodeV) (ht : t.length ≤ 2 ^ 61) (i : Int) (s : AS) : ACalls Tryz.prog Γ 42 [treeV t, .v (.int .i64 i)] s (fun r s' => r = .v (.bool (decide (memR t i))) ∧ s' = s) := by
  refine acalls_body Tryz.func42 rfl Tryz.ntmps42 Tryz.results42 (by simp) ?_
  have hat := fun i (h : i < t.length) => node_at (t := t) h
  unfold treeV
  generalize rowC NodeV.cells t = X at *
  have hno : ¬ memR t i → decide (memR t i) = false := fun h => decide_eq_false h
  refine wS fun K hK => ?_
  simp only [↓DN,UP,DF,Qa,Qb,Qc,Qd,Qe,Qf,Qg,Qh,reduceCtorEq,↓reduceIte,Na,Nb,Nc,Nk,Nf,Ng,Nh,Za,Zb,Zc,TT]
  refine hK _ _ ?_;clear hK K
  by_cases h0 : 0 ≤ i
  · obtain ⟨n, rfl⟩ := Int.eq_ofNat_of_zero_le h0
    by_cases h1 : n < t.length
    · have e1 := imul2_nat n (by omega)
      by_cases h2 : 2 * n < t.length
      · have hat' := hat (2 * n) h2
        have hk : decide (memR t (n : Int)) = ((nd t (2 * n)).kind == 1) := by
          rw [Bool.eq_iff_iff, decide_eq_true_iff, beq_iff_eq]
          unfold memR
          rw [Int.toNat_natCast]
          exact ⟨fun k => k.2.2, fun k => ⟨h0, by omega, k⟩⟩
        generalize nd t (2 * n) = N at *
        obtain ⟨k, nm, y, pa, u⟩ := N
        unfold NodeV.cells at hat'
        have hge : (0 : Int) ≤ ((2 * n : Nat) : Int) := by omega
        refine wS fun K hK => ?_
        simp only [↓DN,UP,DF,Qa,Qb,Qc,Qd,Qe,Qf,Qg,Qh,reduceCtorEq,↓reduceIte,Na,Nb,Nc,Nk,Nf,Ng,Nh,Za,Zb,Zc,TT, decide_eq_true h0, eye_lt_nat, decide_eq_true h1, decide_eq_true h2, e1, h2, hge, hat']
        refine hK _ _ ?_;clear hK K
        refine awp_ret ?_
        try simp only [thenQ, blockQ]
        simp only [retQ, AEnds, aresL, ares, List.toList_toArray, ↓upd_same]; try simp only [UP,DF,Nc,↓reduceIte,DT]
        rw [hk]
        exact ⟨_, _, AV.weak.refl _, AS.le.refl _, rfl, rfl⟩
      · refine wS fun K hK => ?_
        simp only [↓DN,UP,DF,Qa,Qb,Qc,Qd,Qe,Qf,Qg,Qh,reduceCtorEq,↓reduceIte,Na,Nb,Nc,Nk,Nf,Ng,Nh,Za,Zb,Zc,TT, decide_eq_true h0, eye_lt_nat, decide_eq_true h1, decide_eq_false h2, e1]
        refine hK _ _ ?_;clear hK K
        refine awp_ret ?_
        try simp only [thenQ, blockQ]
        simp only [retQ, AEnds, aresL, ares, List.toList_toArray, ↓upd_same]; try simp only [UP,DF,Nc,↓reduceIte,DT]
        rw [hno (fun k => by have := k.2.1; omega)]
        exact ⟨_, _, AV.weak.refl _, AS.le.refl _, rfl, rfl⟩
    · refine wS fun K hK => ?_
      simp only [↓DN,UP,DF,Qa,Qb,Qc,Qd,Qe,Qf,Qg,Qh,reduceCtorEq,↓reduceIte,Na,Nb,Nc,Nk,Nf,Ng,Nh,Za,Zb,Zc,TT, decide_eq_true h0, eye_lt_nat, decide_eq_false h1]
      refine hK _ _ ?_;clear hK K
      refine awp_ret ?_
      try simp only [thenQ, blockQ]
      simp only [retQ, AEnds, aresL, ares, List.toList_toArray, ↓upd_same]; try simp only [UP,DF,Nc,↓reduceIte,DT]
      rw [hno (fun k => by have := k.2.1; omega)]
      exact ⟨_, _, AV.weak.refl _, AS.le.refl _, rfl, rfl⟩
  · refine wS fun K hK => ?_
    simp only [↓DN,UP,DF,Qa,Qb,Qc,Qd,Qe,Qf,Qg,Qh,reduceCtorEq,↓reduceIte,Na,Nb,Nc,Nk,Nf,Ng,Nh,Za,Zb,Zc,TT, decide_eq_false h0]
    refine hK _ _ ?_;clear hK K
    refine awp_ret ?_
    try simp only [thenQ, blockQ]
    simp only [retQ, AEnds, aresL, ares, List.toList_toArray, ↓upd_same]; try simp only [UP,DF,Nc,↓reduceIte,DT]
    rw [hno (fun k => h0 k.1)]
    exact ⟨_, _, AV.weak.refl _, AS.le.refl _, rfl, rfl⟩

end Go.Proofs.YtcnilmidfhpckaaGreatDoor


set_option autoImplicit false
namespace Go.Proofs.YtcnilmidfhpckaaGreatDoor
open Go Go.AM Go.Proofs


variable {Γ : Nat → List AV}

theorem strEq {a b : List UInt8} (h : a = b) : (a == b) = true := by simpa using h
theorem strNe {a b : List UInt8} (h : a ≠ b) : (a == b) = false := by simpa using h

set_option maxHeartbeats 1000000 in
theorem refCount_calls (t : List NodeV) (ht : t.length ≤ 2 ^ 61) (a k : Nat) (hak : a + k < 2 ^ 61) (s : AS) : ACalls Tryz.prog Γ 43 [treeV t, .v (.int .i64 a), .v (.int .i64 (((a + k : Nat) : Int) - 1))] s (fun r s' => r = .v (.int .i64 (cntN (memR t) a k)) ∧ s' = s) := by
  refine acalls_body Tryz.func43 rfl Tryz.ntmps43 Tryz.results43 (by simp) ?_
  have hm := fun i s => refMember_calls (Γ := Γ) t ht i s
  unfold treeV at hm ⊢
  generalize rowC NodeV.cells t = X at *
  refine wS fun K hK => ?_
  simp only [↓DN,UP,DF,Qa,Qb,Qc,Qd,Qe,Qf,Qg,Qh,reduceCtorEq,↓reduceIte,Na,Nb,Nc,Nk,Nf,Ng,Nh,Za,Zb,Zc,TT]
  refine hK _ _ ?_;clear hK K
  refine wS fun K hK => ?_
  simp only [↓DN,UP,DF,Qa,Qb,Qc,Qd,Qe,Qf,Qg,Qh,reduceCtorEq,↓reduceIte,Na,Nb,Nc,Nk,Nf,Ng,Nh,Za,Zb,Zc,TT]
  refine hK _ _ ?_;clear hK K
  refine wK fun K hK => ?_
  refine wS fun K hK => ?_
  simp only [↓DN,UP,DF,Qa,Qb,Qc,Qd,Qe,Qf,Qg,Qh,reduceCtorEq,↓reduceIte,Na,Nb,Nc,Nk,Nf,Ng,Nh,Za,Zb,Zc,TT]
  refine hK _ _ ?_;clear hK K
  refine awp_block ?_
  refine awp_loop (fun E s2 => ∃ i : Nat, i ≤ k ∧ E 8 = .v (.int .i64 ((a + i : Nat) : Int)) ∧ E 7 = .v (.int .i64 (cntN (memR t) a i)) ∧ E 0 = .sl 5 t.length X .any ∧ E 2 = .v (.int .i64 (((a + k : Nat) : Int) - 1)) ∧ s2 = s)
    (fun E _ => match E 8 with | .v (.int _ i) => a + k - i.toNat | _ => 0) ?_ ?_
  · exact ⟨0, Nat.zero_le _, by simp only [upd, Nc, ↓reduceIte]; rfl, by simp only [upd, Nc, ↓reduceIte]; rfl, by simp only [upd, initE, List.getD_cons_zero, List.getD_cons_succ, Nc, ↓reduceIte], by simp only [upd, initE, List.getD_cons_zero, List.getD_cons_succ, Nc, ↓reduceIte], rfl⟩
  · rintro E1 s2 ⟨i, hi, g8, g7, g0, g2, rfl⟩ -
    refine wK fun K2 hK2 => ?_
    by_cases hi' : i < k
    · have h1 : decide (((a + i : Nat) : Int) ≤ ((a + k : Nat) : Int) - 1) = true := decide_eq_true (by omega)
      refine wS fun K hK => ?_
      simp only [↓DN,UP,DF,Qa,Qb,Qc,Qd,Qe,Qf,Qg,Qh,reduceCtorEq,↓reduceIte,Na,Nb,Nc,Nk,Nf,Ng,Nh,Za,Zb,Zc,TT, g8, g2, h1]
      refine hK _ _ ?_;clear hK K
      refine wC fun X Y hX hY => ?_
      simp only [↓DN,UP,DF,Qa,Qb,Qc,Qd,Qe,Qf,Qg,Qh,reduceCtorEq,↓reduceIte,Na,Nb,Nc,Nk,Nf,Ng,Nh,Za,Zb,Zc,TT, DB]
      refine hX ?_;clear hX hY X Y
      refine awp_skip ?_
      refine hK2 _ _ ?_;clear hK2 K2
      refine wK fun K3 hK3 => ?_
      refine awp_block ?_
      have hend : ∀ (E : Env), E 8 = .v (.int .i64 ((a + i : Nat) : Int)) → E 7 = .v (.int .i64 (cntN (memR t) a (i + 1))) → E 0 = .sl 5 t.length X .any → E 2 = .v (.int .i64 (((a + k : Nat) : Int) - 1)) → K3 E s2 := by
        intro E f8 f7 f0 f2
        refine hK3 _ _ ?_;clear hK3 K3
        refine wE fun K hK => ?_
        simp only [↓DN,UP,DF,Qa,Qb,Qc,Qd,Qe,Qf,Qg,Qh,reduceCtorEq,↓reduceIte,Na,Nb,Nc,Nk,Nf,Ng,Nh,Za,Zb,Zc,TT, f8, eye_succM (a + i) (by omega)]
        refine hK _ _ ?_;clear hK K
        refine ⟨⟨i + 1, hi', by simp only [upd, Nc, ↓reduceIte]; rfl, by simp only [upd, f7, Nc, ↓reduceIte], by simp only [upd, f0, Nc, ↓reduceIte], by simp only [upd, f2, Nc, ↓reduceIte], rfl⟩, ?_⟩
        simp only [g8, upd, ↓reduceIte]
        omega
      clear hK3
      refine wS fun K hK => ?_
      simp only [↓DN,UP,DF,Qa,Qb,Qc,Qd,Qe,Qf,Qg,Qh,reduceCtorEq,↓reduceIte,Na,Nb,Nc,Nk,Nf,Ng,Nh,Za,Zb,Zc,TT, g0, g8]
      refine acallk (hm _ _) ?_
      rintro r s3 ⟨rfl, rfl⟩
      have hc := cntN_le (memR t) a i
      by_cases hp : memR t ((a + i : Nat) : Int)
      · rw [decide_eq_true hp]
        simp only [↓AXq_nil,↓AXq_cons,pval,DX,Nat.reduceBEq,↓DN,UP,DF,Qa,Qb,Qc,Qd,Qe,Qf,Qg,Qh,reduceCtorEq,↓reduceIte,Na,Nb,Nc,Nk,Nf,Ng,Nh,Za,Zb,Zc,TT]
        refine hK _ _ ?_;clear hK K
        refine wC fun X Y hX hY => ?_
        simp only [↓DN,UP,DF,Qa,Qb,Qc,Qd,Qe,Qf,Qg,Qh,reduceCtorEq,↓reduceIte,Na,Nb,Nc,Nk,Nf,Ng,Nh,Za,Zb,Zc,TT, DB]
        refine hX ?_;clear hX hY X Y
        refine wE fun K hK => ?_
        simp only [↓DN,UP,DF,Qa,Qb,Qc,Qd,Qe,Qf,Qg,Qh,reduceCtorEq,↓reduceIte,Na,Nb,Nc,Nk,Nf,Ng,Nh,Za,Zb,Zc,TT, g7, eye_succM (cntN (memR t) a i) (by omega)]
        refine hK _ _ ?_;clear hK K
        refine hend _ (by simp only [upd, g8, Nc, ↓reduceIte]) ?_ (by simp only [upd, g0, Nc, ↓reduceIte]) (by simp only [upd, g2, Nc, ↓reduceIte])
        have : cntN (memR t) a (i + 1) = cntN (memR t) a i + 1 := by simp only [cntN]; rw [if_pos hp]
        rw [this]
        simp only [upd, Nc, ↓reduceIte]
      · rw [decide_eq_false hp]
        simp only [↓AXq_nil,↓AXq_cons,pval,DX,Nat.reduceBEq,↓DN,UP,DF,Qa,Qb,Qc,Qd,Qe,Qf,Qg,Qh,reduceCtorEq,↓reduceIte,Na,Nb,Nc,Nk,Nf,Ng,Nh,Za,Zb,Zc,TT]
        refine hK _ _ ?_;clear hK K
        refine wC fun X Y hX hY => ?_
        simp only [↓DN,UP,DF,Qa,Qb,Qc,Qd,Qe,Qf,Qg,Qh,reduceCtorEq,↓reduceIte,Na,Nb,Nc,Nk,Nf,Ng,Nh,Za,Zb,Zc,TT, DB]
        refine hY ?_;clear hX hY X Y
        refine awp_skip ?_
        refine hend _ (by simp only [upd, g8, Nc, ↓reduceIte]) ?_ (by simp only [upd, g0, Nc, ↓reduceIte]) (by simp only [upd, g2, Nc, ↓reduceIte])
        have : cntN (memR t) a (i + 1) = cntN (memR t) a i := by simp only [cntN]; rw [if_neg hp]; omega
        rw [this]
        simp only [upd, g7, Nc, ↓reduceIte]
    · have h1 : decide (((a + i : Nat) : Int) ≤ ((a + k : Nat) : Int) - 1) = false := decide_eq_false (by omega)
      refine wS fun K hK => ?_
      simp only [↓DN,UP,DF,Qa,Qb,Qc,Qd,Qe,Qf,Qg,Qh,reduceCtorEq,↓reduceIte,Na,Nb,Nc,Nk,Nf,Ng,Nh,Za,Zb,Zc,TT, g8, g2, h1]
      refine hK _ _ ?_;clear hK K
      refine wC fun X Y hX hY => ?_
      simp only [↓DN,UP,DF,Qa,Qb,Qc,Qd,Qe,Qf,Qg,Qh,reduceCtorEq,↓reduceIte,Na,Nb,Nc,Nk,Nf,Ng,Nh,Za,Zb,Zc,TT, DB]
      refine hY ?_;clear hX hY X Y
      refine awp_exit ?_
      simp only [thenQ, blockQ, if_true]
      refine hK _ _ ?_;clear hK hK2 K2 K
      obtain rfl : i = k := by omega
      refine wS fun K hK => ?_
      simp only [↓DN,UP,DF,Qa,Qb,Qc,Qd,Qe,Qf,Qg,Qh,reduceCtorEq,↓reduceIte,Na,Nb,Nc,Nk,Nf,Ng,Nh,Za,Zb,Zc,TT, g7]
      refine hK _ _ ?_;clear hK K
      refine awp_ret ?_
      try simp only [thenQ, blockQ]
      simp only [retQ, AEnds, aresL, ares, List.toList_toArray, ↓upd_same]; try simp only [UP,DF,Nc,↓reduceIte,DT]
      exact ⟨_, _, AV.weak.refl _, AS.le.refl _, rfl, rfl⟩

set_option maxHeartbeats 1000000 in
theorem refNamed_calls (t : List NodeV) (ht : t.length ≤ 2 ^ 61) (name : List UInt8) (s : AS) : ACalls Tryz.prog Γ 40 [treeV t, .v (.string ⟨name.toArray⟩)] s (fun r s' => r = .v (.int .i64 (namedR t name)) ∧ s' = s) := by
  refine acalls_body Tryz.func40 rfl Tryz.ntmps40 Tryz.results40 (by simp) ?_
  have hm := fun i s => refMember_calls (Γ := Γ) t ht i s
  have hat := fun i (h : i < t.length) => node_at (t := t) h
  obtain ⟨Q, hQ⟩ : ∃ Q : Nat → Bool, Q = fun (j : Nat) => decide (memR t (j : Int) ∧ (nd t (2 * j)).name = name) := ⟨_, rfl⟩
  have hres : namedR t name = firstN Q (hlf t - 0) 0 := by rw [hQ]; rfl
  unfold treeV at hm ⊢
  generalize rowC NodeV.cells t = X at *
  refine wS fun K hK => ?_
  simp only [↓DN,UP,DF,Qa,Qb,Qc,Qd,Qe,Qf,Qg,Qh,reduceCtorEq,↓reduceIte,Na,Nb,Nc,Nk,Nf,Ng,Nh,Za,Zb,Zc,TT]
  refine hK _ _ ?_;clear hK K
  refine wK fun K hK => ?_
  refine wS fun K hK => ?_
  simp only [↓DN,UP,DF,Qa,Qb,Qc,Qd,Qe,Qf,Qg,Qh,reduceCtorEq,↓reduceIte,Na,Nb,Nc,Nk,Nf,Ng,Nh,Za,Zb,Zc,TT]
  refine hK _ _ ?_;clear hK K
  refine awp_block ?_
  refine awp_loop (fun E s2 => ∃ i : Nat, i ≤ 2 ^ 61 ∧ firstN Q (hlf t - i) i = firstN Q (hlf t - 0) 0 ∧ E 5 = .v (.int .i64 i) ∧ E 0 = .sl 5 t.length X .any ∧ E 1 = .v (.string ⟨name.toArray⟩) ∧ s2 = s)
    (fun E _ => match E 5 with | .v (.int _ i) => hlf t - i.toNat | _ => 0) ?_ ?_
  · exact ⟨0, by omega, rfl, by simp only [upd, Nc, ↓reduceIte]; rfl, by simp only [upd, initE, List.getD_cons_zero, List.getD_cons_succ, Nc, ↓reduceIte], by simp only [upd, initE, List.getD_cons_zero, List.getD_cons_succ, Nc, ↓reduceIte], rfl⟩
  · rintro E1 s2 ⟨i, hi, hf, g7, g0, g1, rfl⟩ -
    refine wK fun K2 hK2 => ?_
    by_cases hi' : i < hlf t
    · have hi2 : 2 * i < t.length := hlf_lt.1 hi'
      refine wS fun K hK => ?_
      simp only [↓DN,UP,DF,Qa,Qb,Qc,Qd,Qe,Qf,Qg,Qh,reduceCtorEq,↓reduceIte,Na,Nb,Nc,Nk,Nf,Ng,Nh,Za,Zb,Zc,TT, g7, g0, imul2_nat i (by omega), eye_lt_nat, decide_eq_true hi2]
      refine hK _ _ ?_;clear hK K
      refine wC fun X Y hX hY => ?_
      simp only [↓DN,UP,DF,Qa,Qb,Qc,Qd,Qe,Qf,Qg,Qh,reduceCtorEq,↓reduceIte,Na,Nb,Nc,Nk,Nf,Ng,Nh,Za,Zb,Zc,TT, DB]
      refine hX ?_;clear hX hY X Y
      refine awp_skip ?_
      refine hK2 _ _ ?_;clear hK2 K2
      refine wK fun K3 hK3 => ?_
      refine awp_block ?_
      obtain ⟨k, hk⟩ : ∃ k, hlf t - i = k + 1 := ⟨hlf t - i - 1, by omega⟩
      have hk' : hlf t - (i + 1) = k := by omega
      rw [hk] at hf
      have hQi : Q i = decide (memR t i ∧ (nd t (2 * i)).name = name) := by rw [hQ]
      have hend : ∀ (E : Env), Q i = false → E 5 = .v (.int .i64 i) → E 0 = .sl 5 t.length X .any → E 1 = .v (.string ⟨name.toArray⟩) → K3 E s2 := by
        intro E hq f7 f0 f1
        refine hK3 _ _ ?_;clear hK3 K3
        refine wE fun K hK => ?_
        simp only [↓DN,UP,DF,Qa,Qb,Qc,Qd,Qe,Qf,Qg,Qh,reduceCtorEq,↓reduceIte,Na,Nb,Nc,Nk,Nf,Ng,Nh,Za,Zb,Zc,TT, f7, eye_succM i (by omega)]
        refine hK _ _ ?_;clear hK K
        refine ⟨⟨i + 1, by omega, by rw [hk', ← hf, firstN_step hq], by simp only [upd, Nc, ↓reduceIte], by simp only [upd, f0, Nc, ↓reduceIte], by simp only [upd, f1, Nc, ↓reduceIte], rfl⟩, ?_⟩
        simp only [g7, upd, ↓reduceIte]
        omega
      clear hK3
      have hat' := hat (2 * i) hi2
      generalize nd t (2 * i) = N at *
      obtain ⟨nk, nm, ny, npa, nu⟩ := N
      unfold NodeV.cells at hat'
      simp only at hQi
      have hge : (0 : Int) ≤ ((2 * i : Nat) : Int) := by omega
      refine wS fun K hK => ?_
      simp only [↓DN,UP,DF,Qa,Qb,Qc,Qd,Qe,Qf,Qg,Qh,reduceCtorEq,↓reduceIte,Na,Nb,Nc,Nk,Nf,Ng,Nh,Za,Zb,Zc,TT, g0, g7]
      refine acallk (hm _ _) ?_
      rintro r s3 ⟨rfl, rfl⟩
      by_cases hp : memR t (i : Int)
      · rw [decide_eq_true hp]
        by_cases hn : nm = name
        · rw [decide_eq_true ⟨hp, hn⟩] at hQi
          simp only [↓AXq_nil,↓AXq_cons,pval,DX,Nat.reduceBEq,↓DN,UP,DF,Qa,Qb,Qc,Qd,Qe,Qf,Qg,Qh,reduceCtorEq,↓reduceIte,Na,Nb,Nc,Nk,Nf,Ng,Nh,Za,Zb,Zc,TT, g0, g7, g1, imul2_nat i (by omega), eye_lt_nat, hi2, hge, hat', strEq hn]
          refine hK _ _ ?_;clear hK K
          refine wC fun X Y hX hY => ?_
          simp only [↓DN,UP,DF,Qa,Qb,Qc,Qd,Qe,Qf,Qg,Qh,reduceCtorEq,↓reduceIte,Na,Nb,Nc,Nk,Nf,Ng,Nh,Za,Zb,Zc,TT, DB]
          refine hX ?_;clear hX hY X Y
          refine wS fun K hK => ?_
          simp only [↓DN,UP,DF,Qa,Qb,Qc,Qd,Qe,Qf,Qg,Qh,reduceCtorEq,↓reduceIte,Na,Nb,Nc,Nk,Nf,Ng,Nh,Za,Zb,Zc,TT, g7]
          refine hK _ _ ?_;clear hK K
          refine awp_ret ?_
          try simp only [thenQ, blockQ]
          simp only [retQ, AEnds, aresL, ares, List.toList_toArray, ↓upd_same]; try simp only [UP,DF,Nc,↓reduceIte,DT]
          rw [hres, ← hf, firstN_here hQi]
          exact ⟨_, _, AV.weak.refl _, AS.le.refl _, rfl, rfl⟩
        · rw [decide_eq_false (fun q => hn q.2)] at hQi
          simp only [↓AXq_nil,↓AXq_cons,pval,DX,Nat.reduceBEq,↓DN,UP,DF,Qa,Qb,Qc,Qd,Qe,Qf,Qg,Qh,reduceCtorEq,↓reduceIte,Na,Nb,Nc,Nk,Nf,Ng,Nh,Za,Zb,Zc,TT, g0, g7, g1, imul2_nat i (by omega), eye_lt_nat, hi2, hge, hat', strNe hn]
          refine hK _ _ ?_;clear hK K
          refine wC fun X Y hX hY => ?_
          simp only [↓DN,UP,DF,Qa,Qb,Qc,Qd,Qe,Qf,Qg,Qh,reduceCtorEq,↓reduceIte,Na,Nb,Nc,Nk,Nf,Ng,Nh,Za,Zb,Zc,TT, DB]
          refine hY ?_;clear hX hY X Y
          refine awp_skip ?_
          exact hend _ hQi (by simp only [upd, g7, Nc, ↓reduceIte]) (by simp only [upd, g0, Nc, ↓reduceIte]) (by simp only [upd, g1, Nc, ↓reduceIte])
      · rw [decide_eq_false hp]
        rw [decide_eq_false (fun q => hp q.1)] at hQi
        simp only [↓AXq_nil,↓AXq_cons,pval,DX,Nat.reduceBEq,↓DN,UP,DF,Qa,Qb,Qc,Qd,Qe,Qf,Qg,Qh,reduceCtorEq,↓reduceIte,Na,Nb,Nc,Nk,Nf,Ng,Nh,Za,Zb,Zc,TT]
        refine hK _ _ ?_;clear hK K
        refine wC fun X Y hX hY => ?_
        simp only [↓DN,UP,DF,Qa,Qb,Qc,Qd,Qe,Qf,Qg,Qh,reduceCtorEq,↓reduceIte,Na,Nb,Nc,Nk,Nf,Ng,Nh,Za,Zb,Zc,TT, DB]
        refine hY ?_;clear hX hY X Y
        refine awp_skip ?_
        exact hend _ hQi (by simp only [upd, g7, Nc, ↓reduceIte]) (by simp only [upd, g0, Nc, ↓reduceIte]) (by simp only [upd, g1, Nc, ↓reduceIte])
    · have hi2 : ¬ 2 * i < t.length := fun h => hi' (hlf_lt.2 h)
      refine wS fun K hK => ?_
      simp only [↓DN,UP,DF,Qa,Qb,Qc,Qd,Qe,Qf,Qg,Qh,reduceCtorEq,↓reduceIte,Na,Nb,Nc,Nk,Nf,Ng,Nh,Za,Zb,Zc,TT, g7, g0, imul2_nat i (by omega), eye_lt_nat, decide_eq_false hi2]
      refine hK _ _ ?_;clear hK K
      refine wC fun X Y hX hY => ?_
      simp only [↓DN,UP,DF,Qa,Qb,Qc,Qd,Qe,Qf,Qg,Qh,reduceCtorEq,↓reduceIte,Na,Nb,Nc,Nk,Nf,Ng,Nh,Za,Zb,Zc,TT, DB]
      refine hY ?_;clear hX hY X Y
      refine awp_exit ?_
      simp only [thenQ, blockQ, if_true]
      refine hK _ _ ?_;clear hK hK2 K2 K
      rw [show hlf t - i = 0 by omega] at hf
      refine wS fun K hK => ?_
      simp only [↓DN,UP,DF,Qa,Qb,Qc,Qd,Qe,Qf,Qg,Qh,reduceCtorEq,↓reduceIte,Na,Nb,Nc,Nk,Nf,Ng,Nh,Za,Zb,Zc,TT]
      refine hK _ _ ?_;clear hK K
      refine awp_ret ?_
      try simp only [thenQ, blockQ]
      simp only [retQ, AEnds, aresL, ares, List.toList_toArray, ↓upd_same]; try simp only [UP,DF,Nc,↓reduceIte,DT]
      rw [hres, ← hf]
      exact ⟨_, _, AV.weak.refl _, AS.le.refl _, rfl, rfl⟩


end Go.Proofs.YtcnilmidfhpckaaGreatDoor


set_option autoImplicit false
namespace Go.Proofs.YtcnilmidfhpckaaGreatDoor
open Go Go.AM Go.Proofs


variable {Γ : Nat → List AV}

theorem rightT_R {t : List NodeV} : rightT t ↔ lvs t ≠ 0 ∧ (∀ i, i < t.length → goodR t i) ∧ (lvs t = 1 ∨ 0 < cntN (memR t) (lvs t / 2) (lvs t - lvs t / 2)) := by
  unfold rightT
  constructor
  · rintro ⟨a, b, c⟩
    exact ⟨a, (good_iff a).2 b, c.imp id fun q => by rw [cntN_congr (memR_iff a)]; exact q⟩
  · rintro ⟨a, b, c⟩
    exact ⟨a, (good_iff a).1 b, c.imp id fun q => by rw [← cntN_congr (memR_iff a)]; exact q⟩

set_option maxRecDepth 100000 in
set_option maxHeartbeats 8000000 in
theorem refRight20_calls (t : List NodeV) (ht : TreeW t) (s : AS) : ACalls Tryz.prog Γ 11 [treeV t] s (fun r s' => r = .v (.bool (decide (rightT t))) ∧ s' = s) := by
  refine acalls_body Tryz.func11 rfl Tryz.ntmps11 Tryz.results11 (by simp) ?_
  have htl := ht.1
  have hlc := fun s => refLeaves_calls (Γ := Γ) t htl s
  have hmc := fun i s => refMember_calls (Γ := Γ) t htl i s
  have hnc := fun name s => refNamed_calls (Γ := Γ) t htl name s
  have hcc := fun a k h s => refCount_calls (Γ := Γ) t htl a k h s
  have hrn := fun i s => refRight19_calls (Γ := Γ) (nd t i) (ht.nd i).1 s
  have hul := fun i => (ht.nd i).1
  have hat := fun i (h : i < t.length) => node_at (t := t) h
  have hlv := lvs_le t
  have h0len : lvs t ≠ 0 → t.length = 2 * lvs t - 1 := fun h => (lvs_zero_or.resolve_left h).2
  have hno0 : lvs t = 0 → decide (rightT t) = false := fun h => decide_eq_false fun k => k.1 h
  have hnoi : ∀ i, i < t.length → ¬ goodR t i → decide (rightT t) = false := fun i h1 h2 => decide_eq_false fun k => h2 ((rightT_R.1 k).2.1 i h1)
  have hfin : lvs t ≠ 0 → (∀ i, i < t.length → goodR t i) → decide (rightT t) = (((lvs t : Int) == 1) || decide ((0 : Int) < (cntN (memR t) (lvs t / 2) (lvs t - lvs t / 2) : Int))) := by
    intro h1 h2
    rw [Bool.eq_iff_iff, decide_eq_true_iff, Bool.or_eq_true, beq_iff_eq, decide_eq_true_iff, rightT_R]
    constructor
    · rintro ⟨_, _, h3⟩
      exact h3.imp (fun q => by omega) (fun q => by omega)
    · intro h3
      exact ⟨h1, h2, h3.imp (fun q => by omega) (fun q => by omega)⟩
  unfold treeV at *
  generalize rowC NodeV.cells t = X at *
  generalize decide (rightT t) = RES at *
  refine wS fun K hK => ?_
  simp only [↓DN,UP,DF,Qa,Qb,Qc,Qd,Qe,Qf,Qg,Qh,reduceCtorEq,↓reduceIte,Na,Nb,Nc,Nk,Nf,Ng,Nh,Za,Zb,Zc,TT]
  refine hK _ _ ?_;clear hK K
  refine wS fun K hK => ?_
  simp only [↓DN,UP,DF,Qa,Qb,Qc,Qd,Qe,Qf,Qg,Qh,reduceCtorEq,↓reduceIte,Na,Nb,Nc,Nk,Nf,Ng,Nh,Za,Zb,Zc,TT]
  refine acallk (hlc _) ?_
  rintro r s1 ⟨rfl, rfl⟩
  simp only [↓AXq_nil,↓AXq_cons,pval,DX,Nat.reduceBEq,↓DN,UP,DF,Qa,Qb,Qc,Qd,Qe,Qf,Qg,Qh,reduceCtorEq,↓reduceIte,Na,Nb,Nc,Nk,Nf,Ng,Nh,Za,Zb,Zc,TT]
  refine hK _ _ ?_;clear hK K
  refine wK fun K hK => ?_
  by_cases hz : lvs t = 0
  · refine wS fun K hK => ?_
    simp only [↓DN,UP,DF,Qa,Qb,Qc,Qd,Qe,Qf,Qg,Qh,reduceCtorEq,↓reduceIte,Na,Nb,Nc,Nk,Nf,Ng,Nh,Za,Zb,Zc,TT, nat0 hz]
    refine hK _ _ ?_;clear hK K
    refine wC fun X Y hX hY => ?_
    simp only [↓DN,UP,DF,Qa,Qb,Qc,Qd,Qe,Qf,Qg,Qh,reduceCtorEq,↓reduceIte,Na,Nb,Nc,Nk,Nf,Ng,Nh,Za,Zb,Zc,TT, DB]
    refine hX ?_;clear hX hY X Y
    refine wS fun K hK => ?_
    simp only [↓DN,UP,DF,Qa,Qb,Qc,Qd,Qe,Qf,Qg,Qh,reduceCtorEq,↓reduceIte,Na,Nb,Nc,Nk,Nf,Ng,Nh,Za,Zb,Zc,TT]
    refine hK _ _ ?_;clear hK K
    refine awp_ret ?_
    try simp only [thenQ, blockQ]
    simp only [retQ, AEnds, aresL, ares, List.toList_toArray, ↓upd_same]; try simp only [UP,DF,Nc,↓reduceIte,DT]
    rw [hno0 hz]
    exact ⟨_, _, AV.weak.refl _, AS.le.refl _, rfl, rfl⟩
  · refine wS fun K hK => ?_
    simp only [↓DN,UP,DF,Qa,Qb,Qc,Qd,Qe,Qf,Qg,Qh,reduceCtorEq,↓reduceIte,Na,Nb,Nc,Nk,Nf,Ng,Nh,Za,Zb,Zc,TT, nat0F hz]
    refine hK _ _ ?_;clear hK K
    refine wC fun X Y hX hY => ?_
    simp only [↓DN,UP,DF,Qa,Qb,Qc,Qd,Qe,Qf,Qg,Qh,reduceCtorEq,↓reduceIte,Na,Nb,Nc,Nk,Nf,Ng,Nh,Za,Zb,Zc,TT, DB]
    refine hY ?_;clear hX hY X Y
    refine awp_skip ?_
    refine hK _ _ ?_;clear hK K
    have hlen := h0len hz
    refine wK fun K hK => ?_
    refine wS fun K hK => ?_
    simp only [↓DN,UP,DF,Qa,Qb,Qc,Qd,Qe,Qf,Qg,Qh,reduceCtorEq,↓reduceIte,Na,Nb,Nc,Nk,Nf,Ng,Nh,Za,Zb,Zc,TT]
    refine hK _ _ ?_;clear hK K
    refine awp_block ?_
    refine awp_loop (fun E s2 => ∃ i : Nat, i ≤ t.length ∧ (∀ j, j < i → goodR t j) ∧ E 4 = .v (.int .i64 i) ∧ E 3 = .v (.int .i64 (lvs t)) ∧ E 0 = .sl 5 t.length X .any ∧ s2 = s1)
      (fun E _ => match E 4 with | .v (.int _ i) => t.length - i.toNat | _ => 0) ?_ ?_
    · exact ⟨0, Nat.zero_le _, fun j h => absurd h (Nat.not_lt_zero _), by simp only [upd, Nc, ↓reduceIte]; rfl, by simp only [upd, Nc, ↓reduceIte], by simp only [upd, initE, List.getD_cons_zero, List.getD_cons_succ, Nc, ↓reduceIte], rfl⟩
    · rintro E1 s2 ⟨i, hi, hall, g4, g3, g0, rfl⟩ -
      refine wK fun K2 hK2 => ?_
      by_cases hi' : i < t.length
      · refine wS fun K hK => ?_
        simp only [↓DN,UP,DF,Qa,Qb,Qc,Qd,Qe,Qf,Qg,Qh,reduceCtorEq,↓reduceIte,Na,Nb,Nc,Nk,Nf,Ng,Nh,Za,Zb,Zc,TT, g4, g0, eye_lt_nat, decide_eq_true hi']
        refine hK _ _ ?_;clear hK K
        refine wC fun X Y hX hY => ?_
        simp only [↓DN,UP,DF,Qa,Qb,Qc,Qd,Qe,Qf,Qg,Qh,reduceCtorEq,↓reduceIte,Na,Nb,Nc,Nk,Nf,Ng,Nh,Za,Zb,Zc,TT, DB]
        refine hX ?_;clear hX hY X Y
        refine awp_skip ?_
        refine hK2 _ _ ?_;clear hK2 K2
        refine wK fun K3 hK3 => ?_
        refine awp_block ?_
        have hnoi' := hnoi i hi'
        have hgood : goodR t i ↔ (nd t i).right ∧ ((nd t i).kind = 0 ∨ ((nd t i).kind = 1 ↔ i % 2 = 0)) ∧ ((nd t i).kind = 1 → namedR t (nd t i).name = ((i / 2 : Nat) : Int)) ∧ ∀ u ∈ (nd t i).unm, (undI (i : Int)).1 ≤ u ∧ u ≤ (undI (i : Int)).2 ∧ memR t u := Iff.rfl
        have hat' := hat i hi'
        have hrn' := hrn i
        have hul' := hul i
        have hni := fun s => hnc (nd t i).name s
        have hun := fun s => refUnder18_calls (Γ := Γ) (i : Int) s
        generalize (undI (i : Int)).1 = ua at *
        generalize (undI (i : Int)).2 = ub at *
        generalize namedR t (nd t i).name = NI at *
        generalize nd t i = N at *
        obtain ⟨nk, nm, ny, npa, nu⟩ := N
        unfold NodeV.cells at hat' hrn'
        simp only at hni hul' hgood
        unfold intsV at hat' hrn'
        have hge : (0 : Int) ≤ (i : Int) := by omega
        have hr2 : irem (i : Int) 2 = ((i % 2 : Nat) : Int) := irem_u i 2
        have hq2 : iquo .i64 (i : Int) 2 = ((i / 2 : Nat) : Int) := iquo_nat i (by omega)
        have bb : ((true != true) = false ∧ (false != false) = false) ∧ ((true != false) = true ∧ (false != true) = true) := ⟨⟨rfl, rfl⟩, rfl, rfl⟩
        have bc : ((true == true) = true ∧ (false == false) = true) ∧ ((true == false) = false ∧ (false == true) = false) := ⟨⟨rfl, rfl⟩, rfl, rfl⟩
        have hend : goodR t i → ∀ (E : Env), E 4 = .v (.int .i64 i) → E 3 = .v (.int .i64 (lvs t)) → E 0 = .sl 5 t.length X .any → K3 E s2 := by
          intro hg E f4 f3 f0
          refine hK3 _ _ ?_;clear hK3 K3
          refine wE fun K hK => ?_
          simp only [↓DN,UP,DF,Qa,Qb,Qc,Qd,Qe,Qf,Qg,Qh,reduceCtorEq,↓reduceIte,Na,Nb,Nc,Nk,Nf,Ng,Nh,Za,Zb,Zc,TT, f4, eye_succM i (by omega)]
          refine hK _ _ ?_;clear hK K
          refine ⟨⟨i + 1, by omega, ?_, by simp only [upd, Nc, ↓reduceIte], by simp only [upd, f3, Nc, ↓reduceIte], by simp only [upd, f0, Nc, ↓reduceIte], rfl⟩, ?_⟩
          · intro j hj
            by_cases e : j = i
            · rw [e]; exact hg
            · exact hall j (by omega)
          · simp only [g4, upd, ↓reduceIte]
            omega
        clear hK3
        refine awp_reg_frz 5 (by decide) ?_
        intro K5 hK5
        simp only [↓AXq_nil,↓AXq_cons,pval,DX,Nat.reduceBEq,↓DN,UP,DF,Qa,Qb,Qc,Qd,Qe,Qf,Qg,Qh,reduceCtorEq,↓reduceIte,Na,Nb,Nc,Nk,Nf,Ng,Nh,Za,Zb,Zc,TT, g0, g4, eye_lt_nat, hi', hge, hat']
        intro o1 h1
        refine hK5 _ _ o1 _ (by simp only [upd, Nc, ↓reduceIte]) h1 ?_
        clear hK5 K5 h1
        refine wK fun K4 hK4 => ?_
        have h4 : (NodeV.right ⟨nk, nm, ny, npa, nu⟩ ∧ (nk = 0 ∨ (nk = 1 ↔ i % 2 = 0))) → ∀ (E : Env), E 4 = .v (.int .i64 i) → E 3 = .v (.int .i64 (lvs t)) → E 0 = .sl 5 t.length X .any → E 5 = .rop [.v (.int .i64 nk), .sl 1 nm.length (nm.map byteV) .any, .v (.int .u64 ny), .sl 1 npa.length (npa.map byteV) .any, .sl 1 nu.length (nu.map intC) .any] → K4 E s2 := by
          clear g4 g3 g0
          rintro ⟨gr, gk⟩ E g4 g3 g0 g5
          refine hK4 _ _ ?_;clear hK4 K4
          refine wK fun K6 hK6 => ?_
          have h6 : (nk = 1 → NI = ((i / 2 : Nat) : Int)) → ∀ (E : Env), E 4 = .v (.int .i64 i) → E 3 = .v (.int .i64 (lvs t)) → E 0 = .sl 5 t.length X .any → E 5 = .rop [.v (.int .i64 nk), .sl 1 nm.length (nm.map byteV) .any, .v (.int .u64 ny), .sl 1 npa.length (npa.map byteV) .any, .sl 1 nu.length (nu.map intC) .any] → K6 E s2 := by
            clear g4 g3 g0 g5
            intro gn E g4 g3 g0 g5
            refine hK6 _ _ ?_;clear hK6 K6
            refine wS fun K hK => ?_
            simp only [↓DN,UP,DF,Qa,Qb,Qc,Qd,Qe,Qf,Qg,Qh,reduceCtorEq,↓reduceIte,Na,Nb,Nc,Nk,Nf,Ng,Nh,Za,Zb,Zc,TT, g4]
            refine acallk (hun _) ?_
            rintro r s3 ⟨rfl, rfl⟩
            simp only [↓AXq_nil,↓AXq_cons,pval,DX,Nat.reduceBEq,↓DN,UP,DF,Qa,Qb,Qc,Qd,Qe,Qf,Qg,Qh,reduceCtorEq,↓reduceIte,Na,Nb,Nc,Nk,Nf,Ng,Nh,Za,Zb,Zc,TT]
            refine hK _ _ ?_;clear hK K
            refine wS fun K hK => ?_
            simp only [↓DN,UP,DF,Qa,Qb,Qc,Qd,Qe,Qf,Qg,Qh,reduceCtorEq,↓reduceIte,Na,Nb,Nc,Nk,Nf,Ng,Nh,Za,Zb,Zc,TT]
            refine hK _ _ ?_;clear hK K
            refine awp_block ?_
            refine awp_loop (fun E s4 => ∃ k : Nat, k ≤ nu.length ∧ (∀ u ∈ nu.take k, ua ≤ u ∧ u ≤ ub ∧ memR t u) ∧ E 8 = .v (.int .i64 k) ∧ E 6 = .v (.int .i64 ua) ∧ E 7 = .v (.int .i64 ub) ∧ E 4 = .v (.int .i64 i) ∧ E 3 = .v (.int .i64 (lvs t)) ∧ E 0 = .sl 5 t.length X .any ∧ E 5 = .rop [.v (.int .i64 nk), .sl 1 nm.length (nm.map byteV) .any, .v (.int .u64 ny), .sl 1 npa.length (npa.map byteV) .any, .sl 1 nu.length (nu.map intC) .any] ∧ s4 = s3)
              (fun E _ => match E 8 with | .v (.int _ i) => nu.length - i.toNat | _ => 0) ?_ ?_
            · exact ⟨0, Nat.zero_le _, (by intro u hu; simp at hu), by simp only [upd, Nc, ↓reduceIte]; rfl, by simp only [upd, Nc, ↓reduceIte], by simp only [upd, Nc, ↓reduceIte], by simp only [upd, g4, Nc, ↓reduceIte], by simp only [upd, g3, Nc, ↓reduceIte], by simp only [upd, g0, Nc, ↓reduceIte], by simp only [upd, g5, Nc, ↓reduceIte], rfl⟩
            · clear g4 g3 g0 g5
              rintro E2 s4 ⟨k, hk, hku, g8, g6, g7, g4, g3, g0, g5, rfl⟩ -
              refine wK fun K7 hK7 => ?_
              by_cases hk' : k < nu.length
              · refine wS fun K hK => ?_
                simp only [↓DN,UP,DF,Qa,Qb,Qc,Qd,Qe,Qf,Qg,Qh,reduceCtorEq,↓reduceIte,Na,Nb,Nc,Nk,Nf,Ng,Nh,Za,Zb,Zc,TT, g8, g5, eye_lt_nat, decide_eq_true hk']
                refine hK _ _ ?_;clear hK K
                refine wC fun X Y hX hY => ?_
                simp only [↓DN,UP,DF,Qa,Qb,Qc,Qd,Qe,Qf,Qg,Qh,reduceCtorEq,↓reduceIte,Na,Nb,Nc,Nk,Nf,Ng,Nh,Za,Zb,Zc,TT, DB]
                refine hX ?_;clear hX hY X Y
                refine awp_skip ?_
                refine hK7 _ _ ?_;clear hK7 K7
                refine wK fun K8 hK8 => ?_
                refine awp_block ?_
                have hgk : (0 : Int) ≤ (k : Int) := by omega
                have huat := eat_int hk'
                have humem : nu[k] ∈ nu := List.getElem_mem hk'
                have hutk : nu.take (k + 1) = nu.take k ++ [nu[k]] := List.take_succ_eq_append_getElem hk'
                generalize nu[k] = u at *
                have hend2 : (ua ≤ u ∧ u ≤ ub ∧ memR t u) → ∀ (E : Env), E 8 = .v (.int .i64 k) → E 6 = .v (.int .i64 ua) → E 7 = .v (.int .i64 ub) → E 4 = .v (.int .i64 i) → E 3 = .v (.int .i64 (lvs t)) → E 0 = .sl 5 t.length X .any → E 5 = .rop [.v (.int .i64 nk), .sl 1 nm.length (nm.map byteV) .any, .v (.int .u64 ny), .sl 1 npa.length (npa.map byteV) .any, .sl 1 nu.length (nu.map intC) .any] → K8 E s4 := by
                  intro hu E f8 f6 f7 f4 f3 f0 f5
                  refine hK8 _ _ ?_;clear hK8 K8
                  refine wE fun K hK => ?_
                  simp only [↓DN,UP,DF,Qa,Qb,Qc,Qd,Qe,Qf,Qg,Qh,reduceCtorEq,↓reduceIte,Na,Nb,Nc,Nk,Nf,Ng,Nh,Za,Zb,Zc,TT, f8, eye_succM k (by omega)]
                  refine hK _ _ ?_;clear hK K
                  refine ⟨⟨k + 1, by omega, ?_, by simp only [upd, Nc, ↓reduceIte], by simp only [upd, f6, Nc, ↓reduceIte], by simp only [upd, f7, Nc, ↓reduceIte], by simp only [upd, f4, Nc, ↓reduceIte], by simp only [upd, f3, Nc, ↓reduceIte], by simp only [upd, f0, Nc, ↓reduceIte], by simp only [upd, f5, Nc, ↓reduceIte], rfl⟩, ?_⟩
                  · intro v hv
                    rw [hutk, List.mem_append, List.mem_singleton] at hv
                    rcases hv with hv | rfl
                    · exact hku v hv
                    · exact hu
                  · simp only [g8, upd, ↓reduceIte]
                    omega
                clear hK8
                refine wS fun K hK => ?_
                simp only [↓DN,UP,DF,Qa,Qb,Qc,Qd,Qe,Qf,Qg,Qh,reduceCtorEq,↓reduceIte,Na,Nb,Nc,Nk,Nf,Ng,Nh,Za,Zb,Zc,TT, g5, g8, eye_lt_nat, hk', hgk, huat, intC]
                refine hK _ _ ?_;clear hK K
                by_cases u1 : u < ua
                · refine wS fun K hK => ?_
                  simp only [↓DN,UP,DF,Qa,Qb,Qc,Qd,Qe,Qf,Qg,Qh,reduceCtorEq,↓reduceIte,Na,Nb,Nc,Nk,Nf,Ng,Nh,Za,Zb,Zc,TT, g6, decide_eq_true u1]
                  refine hK _ _ ?_;clear hK K
                  refine wC fun X Y hX hY => ?_
                  simp only [↓DN,UP,DF,Qa,Qb,Qc,Qd,Qe,Qf,Qg,Qh,reduceCtorEq,↓reduceIte,Na,Nb,Nc,Nk,Nf,Ng,Nh,Za,Zb,Zc,TT, DB]
                  refine hX ?_;clear hX hY X Y
                  refine wS fun K hK => ?_
                  simp only [↓DN,UP,DF,Qa,Qb,Qc,Qd,Qe,Qf,Qg,Qh,reduceCtorEq,↓reduceIte,Na,Nb,Nc,Nk,Nf,Ng,Nh,Za,Zb,Zc,TT]
                  refine hK _ _ ?_;clear hK K
                  refine awp_ret ?_
                  try simp only [thenQ, blockQ]
                  simp only [retQ, AEnds, aresL, ares, List.toList_toArray, ↓upd_same]; try simp only [UP,DF,Nc,↓reduceIte,DT]
                  rw [hnoi' (fun q => by have := ((hgood.1 q).2.2.2 u humem).1; omega)]
                  exact ⟨_, _, AV.weak.refl _, AS.le.refl _, rfl, rfl⟩
                · by_cases u2 : ub < u
                  · refine wS fun K hK => ?_
                    simp only [↓DN,UP,DF,Qa,Qb,Qc,Qd,Qe,Qf,Qg,Qh,reduceCtorEq,↓reduceIte,Na,Nb,Nc,Nk,Nf,Ng,Nh,Za,Zb,Zc,TT, g6, g7, decide_eq_false u1, decide_eq_true u2]
                    refine hK _ _ ?_;clear hK K
                    refine wC fun X Y hX hY => ?_
                    simp only [↓DN,UP,DF,Qa,Qb,Qc,Qd,Qe,Qf,Qg,Qh,reduceCtorEq,↓reduceIte,Na,Nb,Nc,Nk,Nf,Ng,Nh,Za,Zb,Zc,TT, DB]
                    refine hX ?_;clear hX hY X Y
                    refine wS fun K hK => ?_
                    simp only [↓DN,UP,DF,Qa,Qb,Qc,Qd,Qe,Qf,Qg,Qh,reduceCtorEq,↓reduceIte,Na,Nb,Nc,Nk,Nf,Ng,Nh,Za,Zb,Zc,TT]
                    refine hK _ _ ?_;clear hK K
                    refine awp_ret ?_
                    try simp only [thenQ, blockQ]
                    simp only [retQ, AEnds, aresL, ares, List.toList_toArray, ↓upd_same]; try simp only [UP,DF,Nc,↓reduceIte,DT]
                    rw [hnoi' (fun q => by have := ((hgood.1 q).2.2.2 u humem).2.1; omega)]
                    exact ⟨_, _, AV.weak.refl _, AS.le.refl _, rfl, rfl⟩
                  · refine wS fun K hK => ?_
                    simp only [↓DN,UP,DF,Qa,Qb,Qc,Qd,Qe,Qf,Qg,Qh,reduceCtorEq,↓reduceIte,Na,Nb,Nc,Nk,Nf,Ng,Nh,Za,Zb,Zc,TT, g6, g7, g0, decide_eq_false u1, decide_eq_false u2]
                    refine acallk (hmc _ _) ?_
                    rintro r s5 ⟨rfl, rfl⟩
                    by_cases u3 : memR t u
                    · rw [decide_eq_true u3]
                      simp only [↓AXq_nil,↓AXq_cons,pval,DX,Nat.reduceBEq,↓DN,UP,DF,Qa,Qb,Qc,Qd,Qe,Qf,Qg,Qh,reduceCtorEq,↓reduceIte,Na,Nb,Nc,Nk,Nf,Ng,Nh,Za,Zb,Zc,TT]
                      refine hK _ _ ?_;clear hK K
                      refine wC fun X Y hX hY => ?_
                      simp only [↓DN,UP,DF,Qa,Qb,Qc,Qd,Qe,Qf,Qg,Qh,reduceCtorEq,↓reduceIte,Na,Nb,Nc,Nk,Nf,Ng,Nh,Za,Zb,Zc,TT, DB]
                      refine hY ?_;clear hX hY X Y
                      refine awp_skip ?_
                      simp only [blockQ, thenQ, if_true, if_false]
                      exact hend2 ⟨by omega, by omega, u3⟩ _ (by simp only [upd, g8, Nc, ↓reduceIte]) (by simp only [upd, g6, Nc, ↓reduceIte]) (by simp only [upd, g7, Nc, ↓reduceIte]) (by simp only [upd, g4, Nc, ↓reduceIte]) (by simp only [upd, g3, Nc, ↓reduceIte]) (by simp only [upd, g0, Nc, ↓reduceIte]) (by simp only [upd, g5, Nc, ↓reduceIte])
                    · rw [decide_eq_false u3]
                      simp only [↓AXq_nil,↓AXq_cons,pval,DX,Nat.reduceBEq,↓DN,UP,DF,Qa,Qb,Qc,Qd,Qe,Qf,Qg,Qh,reduceCtorEq,↓reduceIte,Na,Nb,Nc,Nk,Nf,Ng,Nh,Za,Zb,Zc,TT]
                      refine hK _ _ ?_;clear hK K
                      refine wC fun X Y hX hY => ?_
                      simp only [↓DN,UP,DF,Qa,Qb,Qc,Qd,Qe,Qf,Qg,Qh,reduceCtorEq,↓reduceIte,Na,Nb,Nc,Nk,Nf,Ng,Nh,Za,Zb,Zc,TT, DB]
                      refine hX ?_;clear hX hY X Y
                      refine wS fun K hK => ?_
                      simp only [↓DN,UP,DF,Qa,Qb,Qc,Qd,Qe,Qf,Qg,Qh,reduceCtorEq,↓reduceIte,Na,Nb,Nc,Nk,Nf,Ng,Nh,Za,Zb,Zc,TT]
                      refine hK _ _ ?_;clear hK K
                      refine awp_ret ?_
                      try simp only [thenQ, blockQ]
                      simp only [retQ, AEnds, aresL, ares, List.toList_toArray, ↓upd_same]; try simp only [UP,DF,Nc,↓reduceIte,DT]
                      rw [hnoi' (fun q => u3 ((hgood.1 q).2.2.2 u humem).2.2)]
                      exact ⟨_, _, AV.weak.refl _, AS.le.refl _, rfl, rfl⟩
              · refine wS fun K hK => ?_
                simp only [↓DN,UP,DF,Qa,Qb,Qc,Qd,Qe,Qf,Qg,Qh,reduceCtorEq,↓reduceIte,Na,Nb,Nc,Nk,Nf,Ng,Nh,Za,Zb,Zc,TT, g8, g5, eye_lt_nat, decide_eq_false hk']
                refine hK _ _ ?_;clear hK K
                refine wC fun X Y hX hY => ?_
                simp only [↓DN,UP,DF,Qa,Qb,Qc,Qd,Qe,Qf,Qg,Qh,reduceCtorEq,↓reduceIte,Na,Nb,Nc,Nk,Nf,Ng,Nh,Za,Zb,Zc,TT, DB]
                refine hY ?_;clear hX hY X Y
                refine awp_exit ?_
                simp only [thenQ, blockQ, if_true, if_false]
                rw [List.take_of_length_le (by omega)] at hku
                exact hend (hgood.2 ⟨gr, gk, gn, hku⟩) _ (by simp only [upd, g4, Nc, ↓reduceIte]) (by simp only [upd, g3, Nc, ↓reduceIte]) (by simp only [upd, g0, Nc, ↓reduceIte])
          clear hK6
          by_cases k1 : nk = 1
          · refine wS fun K hK => ?_
            simp only [↓DN,UP,DF,Qa,Qb,Qc,Qd,Qe,Qf,Qg,Qh,reduceCtorEq,↓reduceIte,Na,Nb,Nc,Nk,Nf,Ng,Nh,Za,Zb,Zc,TT, g5, yesI k1, g0]
            refine acallk (hni _) ?_
            rintro r s3 ⟨rfl, rfl⟩
            by_cases hn : NI = ((i / 2 : Nat) : Int)
            · simp only [↓AXq_nil,↓AXq_cons,pval,DX,Nat.reduceBEq,↓DN,UP,DF,Qa,Qb,Qc,Qd,Qe,Qf,Qg,Qh,reduceCtorEq,↓reduceIte,Na,Nb,Nc,Nk,Nf,Ng,Nh,Za,Zb,Zc,TT, g4, two0, hq2, eqI hn]
              refine hK _ _ ?_;clear hK K
              refine wC fun X Y hX hY => ?_
              simp only [↓DN,UP,DF,Qa,Qb,Qc,Qd,Qe,Qf,Qg,Qh,reduceCtorEq,↓reduceIte,Na,Nb,Nc,Nk,Nf,Ng,Nh,Za,Zb,Zc,TT, DB]
              refine hY ?_;clear hX hY X Y
              refine awp_skip ?_
              exact h6 (fun _ => hn) _ (by simp only [upd, g4, Nc, ↓reduceIte]) (by simp only [upd, g3, Nc, ↓reduceIte]) (by simp only [upd, g0, Nc, ↓reduceIte]) (by simp only [upd, g5, Nc, ↓reduceIte])
            · simp only [↓AXq_nil,↓AXq_cons,pval,DX,Nat.reduceBEq,↓DN,UP,DF,Qa,Qb,Qc,Qd,Qe,Qf,Qg,Qh,reduceCtorEq,↓reduceIte,Na,Nb,Nc,Nk,Nf,Ng,Nh,Za,Zb,Zc,TT, g4, two0, hq2, neI hn]
              refine hK _ _ ?_;clear hK K
              refine wC fun X Y hX hY => ?_
              simp only [↓DN,UP,DF,Qa,Qb,Qc,Qd,Qe,Qf,Qg,Qh,reduceCtorEq,↓reduceIte,Na,Nb,Nc,Nk,Nf,Ng,Nh,Za,Zb,Zc,TT, DB]
              refine hX ?_;clear hX hY X Y
              refine wS fun K hK => ?_
              simp only [↓DN,UP,DF,Qa,Qb,Qc,Qd,Qe,Qf,Qg,Qh,reduceCtorEq,↓reduceIte,Na,Nb,Nc,Nk,Nf,Ng,Nh,Za,Zb,Zc,TT]
              refine hK _ _ ?_;clear hK K
              refine awp_ret ?_
              try simp only [thenQ, blockQ]
              simp only [retQ, AEnds, aresL, ares, List.toList_toArray, ↓upd_same]; try simp only [UP,DF,Nc,↓reduceIte,DT]
              rw [hnoi' (fun q => hn ((hgood.1 q).2.2.1 k1))]
              exact ⟨_, _, AV.weak.refl _, AS.le.refl _, rfl, rfl⟩
          · refine wS fun K hK => ?_
            simp only [↓DN,UP,DF,Qa,Qb,Qc,Qd,Qe,Qf,Qg,Qh,reduceCtorEq,↓reduceIte,Na,Nb,Nc,Nk,Nf,Ng,Nh,Za,Zb,Zc,TT, g5, notI k1]
            refine hK _ _ ?_;clear hK K
            refine wC fun X Y hX hY => ?_
            simp only [↓DN,UP,DF,Qa,Qb,Qc,Qd,Qe,Qf,Qg,Qh,reduceCtorEq,↓reduceIte,Na,Nb,Nc,Nk,Nf,Ng,Nh,Za,Zb,Zc,TT, DB]
            refine hY ?_;clear hX hY X Y
            refine awp_skip ?_
            exact h6 (fun q => absurd q k1) _ (by simp only [upd, g4, Nc, ↓reduceIte]) (by simp only [upd, g3, Nc, ↓reduceIte]) (by simp only [upd, g0, Nc, ↓reduceIte]) (by simp only [upd, g5, Nc, ↓reduceIte])
        clear hK4
        refine wS fun K hK => ?_
        simp only [↓DN,UP,DF,Qa,Qb,Qc,Qd,Qe,Qf,Qg,Qh,reduceCtorEq,↓reduceIte,Na,Nb,Nc,Nk,Nf,Ng,Nh,Za,Zb,Zc,TT]
        refine acallk (hrn' _) ?_
        rintro r s3 ⟨rfl, rfl⟩
        by_cases gr : NodeV.right ⟨nk, nm, ny, npa, nu⟩
        · rw [decide_eq_true gr]
          by_cases k0 : nk = 0
          · simp only [↓AXq_nil,↓AXq_cons,pval,DX,Nat.reduceBEq,↓DN,UP,DF,Qa,Qb,Qc,Qd,Qe,Qf,Qg,Qh,reduceCtorEq,↓reduceIte,Na,Nb,Nc,Nk,Nf,Ng,Nh,Za,Zb,Zc,TT, eqI k0]
            refine hK _ _ ?_;clear hK K
            refine wC fun X Y hX hY => ?_
            simp only [↓DN,UP,DF,Qa,Qb,Qc,Qd,Qe,Qf,Qg,Qh,reduceCtorEq,↓reduceIte,Na,Nb,Nc,Nk,Nf,Ng,Nh,Za,Zb,Zc,TT, DB]
            refine hY ?_;clear hX hY X Y
            refine awp_skip ?_
            exact h4 ⟨gr, .inl k0⟩ _ (by simp only [upd, g4, Nc, ↓reduceIte]) (by simp only [upd, g3, Nc, ↓reduceIte]) (by simp only [upd, g0, Nc, ↓reduceIte]) (by simp only [upd, Nc, ↓reduceIte])
          · by_cases k1 : nk = 1
            · by_cases kp : i % 2 = 0
              · have t2 : (irem (i : Int) 2 == 0) = true := by rw [hr2]; exact yesI (by omega)
                simp only [↓AXq_nil,↓AXq_cons,pval,DX,Nat.reduceBEq,↓DN,UP,DF,Qa,Qb,Qc,Qd,Qe,Qf,Qg,Qh,reduceCtorEq,↓reduceIte,Na,Nb,Nc,Nk,Nf,Ng,Nh,Za,Zb,Zc,TT, neI k0, yesI k1, g4, two0, t2, bb, bc]
                refine hK _ _ ?_;clear hK K
                refine wC fun X Y hX hY => ?_
                simp only [↓DN,UP,DF,Qa,Qb,Qc,Qd,Qe,Qf,Qg,Qh,reduceCtorEq,↓reduceIte,Na,Nb,Nc,Nk,Nf,Ng,Nh,Za,Zb,Zc,TT, DB]
                refine hY ?_;clear hX hY X Y
                refine awp_skip ?_
                exact h4 ⟨gr, .inr ⟨fun _ => kp, fun _ => k1⟩⟩ _ (by simp only [upd, g4, Nc, ↓reduceIte]) (by simp only [upd, g3, Nc, ↓reduceIte]) (by simp only [upd, g0, Nc, ↓reduceIte]) (by simp only [upd, Nc, ↓reduceIte])
              · have t2 : (irem (i : Int) 2 == 0) = false := by rw [hr2]; exact notI (by omega)
                simp only [↓AXq_nil,↓AXq_cons,pval,DX,Nat.reduceBEq,↓DN,UP,DF,Qa,Qb,Qc,Qd,Qe,Qf,Qg,Qh,reduceCtorEq,↓reduceIte,Na,Nb,Nc,Nk,Nf,Ng,Nh,Za,Zb,Zc,TT, neI k0, yesI k1, g4, two0, t2, bb, bc]
                refine hK _ _ ?_;clear hK K
                refine wC fun X Y hX hY => ?_
                simp only [↓DN,UP,DF,Qa,Qb,Qc,Qd,Qe,Qf,Qg,Qh,reduceCtorEq,↓reduceIte,Na,Nb,Nc,Nk,Nf,Ng,Nh,Za,Zb,Zc,TT, DB]
                refine hX ?_;clear hX hY X Y
                refine wS fun K hK => ?_
                simp only [↓DN,UP,DF,Qa,Qb,Qc,Qd,Qe,Qf,Qg,Qh,reduceCtorEq,↓reduceIte,Na,Nb,Nc,Nk,Nf,Ng,Nh,Za,Zb,Zc,TT]
                refine hK _ _ ?_;clear hK K
                refine awp_ret ?_
                try simp only [thenQ, blockQ]
                simp only [retQ, AEnds, aresL, ares, List.toList_toArray, ↓upd_same]; try simp only [UP,DF,Nc,↓reduceIte,DT]
                rw [hnoi' (fun q => by rcases (hgood.1 q).2.1 with h | h; exact k0 h; exact kp (h.1 k1))]
                exact ⟨_, _, AV.weak.refl _, AS.le.refl _, rfl, rfl⟩
            · by_cases kp : i % 2 = 0
              · have t2 : (irem (i : Int) 2 == 0) = true := by rw [hr2]; exact yesI (by omega)
                simp only [↓AXq_nil,↓AXq_cons,pval,DX,Nat.reduceBEq,↓DN,UP,DF,Qa,Qb,Qc,Qd,Qe,Qf,Qg,Qh,reduceCtorEq,↓reduceIte,Na,Nb,Nc,Nk,Nf,Ng,Nh,Za,Zb,Zc,TT, neI k0, notI k1, g4, two0, t2, bb, bc]
                refine hK _ _ ?_;clear hK K
                refine wC fun X Y hX hY => ?_
                simp only [↓DN,UP,DF,Qa,Qb,Qc,Qd,Qe,Qf,Qg,Qh,reduceCtorEq,↓reduceIte,Na,Nb,Nc,Nk,Nf,Ng,Nh,Za,Zb,Zc,TT, DB]
                refine hX ?_;clear hX hY X Y
                refine wS fun K hK => ?_
                simp only [↓DN,UP,DF,Qa,Qb,Qc,Qd,Qe,Qf,Qg,Qh,reduceCtorEq,↓reduceIte,Na,Nb,Nc,Nk,Nf,Ng,Nh,Za,Zb,Zc,TT]
                refine hK _ _ ?_;clear hK K
                refine awp_ret ?_
                try simp only [thenQ, blockQ]
                simp only [retQ, AEnds, aresL, ares, List.toList_toArray, ↓upd_same]; try simp only [UP,DF,Nc,↓reduceIte,DT]
                rw [hnoi' (fun q => by rcases (hgood.1 q).2.1 with h | h; exact k0 h; exact k1 (h.2 kp))]
                exact ⟨_, _, AV.weak.refl _, AS.le.refl _, rfl, rfl⟩
              · have t2 : (irem (i : Int) 2 == 0) = false := by rw [hr2]; exact notI (by omega)
                simp only [↓AXq_nil,↓AXq_cons,pval,DX,Nat.reduceBEq,↓DN,UP,DF,Qa,Qb,Qc,Qd,Qe,Qf,Qg,Qh,reduceCtorEq,↓reduceIte,Na,Nb,Nc,Nk,Nf,Ng,Nh,Za,Zb,Zc,TT, neI k0, notI k1, g4, two0, t2, bb, bc]
                refine hK _ _ ?_;clear hK K
                refine wC fun X Y hX hY => ?_
                simp only [↓DN,UP,DF,Qa,Qb,Qc,Qd,Qe,Qf,Qg,Qh,reduceCtorEq,↓reduceIte,Na,Nb,Nc,Nk,Nf,Ng,Nh,Za,Zb,Zc,TT, DB]
                refine hY ?_;clear hX hY X Y
                refine awp_skip ?_
                exact h4 ⟨gr, .inr ⟨fun h => absurd h k1, fun h => absurd h kp⟩⟩ _ (by simp only [upd, g4, Nc, ↓reduceIte]) (by simp only [upd, g3, Nc, ↓reduceIte]) (by simp only [upd, g0, Nc, ↓reduceIte]) (by simp only [upd, Nc, ↓reduceIte])
        · rw [decide_eq_false gr]
          simp only [↓AXq_nil,↓AXq_cons,pval,DX,Nat.reduceBEq,↓DN,UP,DF,Qa,Qb,Qc,Qd,Qe,Qf,Qg,Qh,reduceCtorEq,↓reduceIte,Na,Nb,Nc,Nk,Nf,Ng,Nh,Za,Zb,Zc,TT]
          refine hK _ _ ?_;clear hK K
          refine wC fun X Y hX hY => ?_
          simp only [↓DN,UP,DF,Qa,Qb,Qc,Qd,Qe,Qf,Qg,Qh,reduceCtorEq,↓reduceIte,Na,Nb,Nc,Nk,Nf,Ng,Nh,Za,Zb,Zc,TT, DB]
          refine hX ?_;clear hX hY X Y
          refine wS fun K hK => ?_
          simp only [↓DN,UP,DF,Qa,Qb,Qc,Qd,Qe,Qf,Qg,Qh,reduceCtorEq,↓reduceIte,Na,Nb,Nc,Nk,Nf,Ng,Nh,Za,Zb,Zc,TT]
          refine hK _ _ ?_;clear hK K
          refine awp_ret ?_
          try simp only [thenQ, blockQ]
          simp only [retQ, AEnds, aresL, ares, List.toList_toArray, ↓upd_same]; try simp only [UP,DF,Nc,↓reduceIte,DT]
          rw [hnoi' (fun q => gr (hgood.1 q).1)]
          exact ⟨_, _, AV.weak.refl _, AS.le.refl _, rfl, rfl⟩
      · refine wS fun K hK => ?_
        simp only [↓DN,UP,DF,Qa,Qb,Qc,Qd,Qe,Qf,Qg,Qh,reduceCtorEq,↓reduceIte,Na,Nb,Nc,Nk,Nf,Ng,Nh,Za,Zb,Zc,TT, g4, g0, eye_lt_nat, decide_eq_false hi']
        refine hK _ _ ?_;clear hK K
        refine wC fun X Y hX hY => ?_
        simp only [↓DN,UP,DF,Qa,Qb,Qc,Qd,Qe,Qf,Qg,Qh,reduceCtorEq,↓reduceIte,Na,Nb,Nc,Nk,Nf,Ng,Nh,Za,Zb,Zc,TT, DB]
        refine hY ?_;clear hX hY X Y
        refine awp_exit ?_
        simp only [thenQ, blockQ, if_true]
        refine hK _ _ ?_;clear hK hK2 K2 K
        have hall' : ∀ j, j < t.length → goodR t j := fun j h => hall j (by omega)
        have hres := hfin hz hall'
        by_cases h1 : lvs t = 1
        · have e1 := yesI (show ((lvs t : Nat) : Int) = 1 by omega)
          rw [e1] at hres
          refine wS fun K hK => ?_
          simp only [↓DN,UP,DF,Qa,Qb,Qc,Qd,Qe,Qf,Qg,Qh,reduceCtorEq,↓reduceIte,Na,Nb,Nc,Nk,Nf,Ng,Nh,Za,Zb,Zc,TT, g3, e1]
          refine hK _ _ ?_;clear hK K
          refine awp_ret ?_
          try simp only [thenQ, blockQ]
          simp only [retQ, AEnds, aresL, ares, List.toList_toArray, ↓upd_same]; try simp only [UP,DF,Nc,↓reduceIte,DT]
          rw [hres]
          exact ⟨_, _, AV.weak.refl _, AS.le.refl _, rfl, rfl⟩
        · have e1 := notI (show ¬ ((lvs t : Nat) : Int) = 1 by omega)
          rw [e1, Bool.false_or] at hres
          have e2 : iquo .i64 (lvs t : Int) 2 = ((lvs t / 2 : Nat) : Int) := iquo_nat _ (by omega)
          have e3 : isub .i64 (lvs t : Int) 1 = (((lvs t / 2 + (lvs t - lvs t / 2) : Nat)) : Int) - 1 := by rw [isub_i64 (by omega)]; omega
          have hcm := fun s => hcc (lvs t / 2) (lvs t - lvs t / 2) (by omega) s
          generalize (((lvs t / 2 + (lvs t - lvs t / 2) : Nat)) : Int) - 1 = LL at *
          refine wS fun K hK => ?_
          simp only [↓DN,UP,DF,Qa,Qb,Qc,Qd,Qe,Qf,Qg,Qh,reduceCtorEq,↓reduceIte,Na,Nb,Nc,Nk,Nf,Ng,Nh,Za,Zb,Zc,TT, g3, e1, two0, e2, e3, g0]
          refine acallk (hcm _) ?_
          rintro r s3 ⟨rfl, rfl⟩
          simp only [↓AXq_nil,↓AXq_cons,pval,DX,Nat.reduceBEq,↓DN,UP,DF,Qa,Qb,Qc,Qd,Qe,Qf,Qg,Qh,reduceCtorEq,↓reduceIte,Na,Nb,Nc,Nk,Nf,Ng,Nh,Za,Zb,Zc,TT]
          refine hK _ _ ?_;clear hK K
          refine awp_ret ?_
          try simp only [thenQ, blockQ]
          simp only [retQ, AEnds, aresL, ares, List.toList_toArray, ↓upd_same]; try simp only [UP,DF,Nc,↓reduceIte,DT]
          rw [hres]
          exact ⟨_, _, AV.weak.refl _, AS.le.refl _, rfl, rfl⟩

end Go.Proofs.YtcnilmidfhpckaaGreatDoor


set_option autoImplicit false
namespace Go.Proofs.YtcnilmidfhpckaaGreatDoor
open Go Go.AM Go.Proofs

variable {Γ : Nat → List AV}

/-! ### Clones -/
set_option maxHeartbeats 400000 in
theorem bytesClone_nil (s : AS) : ACalls Tryz.prog Γ 94 [nilS] s (fun r s' => r = bytesV [] .any ∧ s' = s) := by
  refine acalls_body Tryz.func94 rfl Tryz.ntmps94 Tryz.results94 (by simp) ?_
  unfold nilS
  refine wS fun K hK => ?_
  simp only [↓DN,UP,DF,Qa,Qb,Qc,Qd,Qe,Qf,Qg,Qh,reduceCtorEq,↓reduceIte,Na,Nb,Nc,Nk,Nf,Ng,Nh,Za,Zb,Zc,TT]
  refine hK _ _ ?_;clear hK K
  refine wK fun K hK => ?_
  refine wS fun K hK => ?_
  simp only [↓DN,UP,DF,Qa,Qb,Qc,Qd,Qe,Qf,Qg,Qh,reduceCtorEq,↓reduceIte,Na,Nb,Nc,Nk,Nf,Ng,Nh,Za,Zb,Zc,TT]
  refine hK _ _ ?_;clear hK K
  refine wC fun X Y hX hY => ?_
  simp only [↓DN,UP,DF,Qa,Qb,Qc,Qd,Qe,Qf,Qg,Qh,reduceCtorEq,↓reduceIte,Na,Nb,Nc,Nk,Nf,Ng,Nh,Za,Zb,Zc,TT, DB]
  refine hX ?_;clear hX hY X Y
  refine wS fun K hK => ?_
  simp only [↓DN,UP,DF,Qa,Qb,Qc,Qd,Qe,Qf,Qg,Qh,reduceCtorEq,↓reduceIte,Na,Nb,Nc,Nk,Nf,Ng,Nh,Za,Zb,Zc,TT]
  refine hK _ _ ?_;clear hK K
  refine awp_ret ?_
  simp only [retQ, AEnds, aresL, ares, List.toList_toArray, ↓upd_same]; try simp only [UP,DF,Nc,↓reduceIte,DT]
  exact ⟨_, _, AV.weak_nil, AS.le.refl _, rfl, rfl⟩

set_option maxHeartbeats 400000 in
theorem bytesClone_no (l : List UInt8) (s : AS) (hl : l.length ≤ 2 ^ 45) : ACalls Tryz.prog Γ 94 [bytesV l .no] s (fun r s' => r = bytesV l .any ∧ s' = s) := by
  refine acalls_body Tryz.func94 rfl Tryz.ntmps94 Tryz.results94 (by simp) ?_
  unfold bytesV
  refine wS fun K hK => ?_
  simp only [↓DN,UP,DF,Qa,Qb,Qc,Qd,Qe,Qf,Qg,Qh,reduceCtorEq,↓reduceIte,Na,Nb,Nc,Nk,Nf,Ng,Nh,Za,Zb,Zc,TT]
  refine hK _ _ ?_;clear hK K
  refine wK fun K hK => ?_
  refine wS fun K hK => ?_
  simp only [↓DN,UP,DF,Qa,Qb,Qc,Qd,Qe,Qf,Qg,Qh,reduceCtorEq,↓reduceIte,Na,Nb,Nc,Nk,Nf,Ng,Nh,Za,Zb,Zc,TT, Bool.false_eq_true, and_false]
  refine hK _ _ ?_;clear hK K
  refine wC fun X Y hX hY => ?_
  simp only [↓DN,UP,DF,Qa,Qb,Qc,Qd,Qe,Qf,Qg,Qh,reduceCtorEq,↓reduceIte,Na,Nb,Nc,Nk,Nf,Ng,Nh,Za,Zb,Zc,TT, DB]
  refine hY ?_;clear hX hY X Y
  refine awp_skip ?_
  refine hK _ _ ?_;clear hK K
  by_cases h0 : l.length = 0
  · have hl0 : l = [] := List.eq_nil_of_length_eq_zero h0
    subst hl0
    refine wS fun K hK => ?_
    simp only [↓DN,UP,DF,Qa,Qb,Qc,Qd,Qe,Qf,Qg,Qh,reduceCtorEq,↓reduceIte,Na,Nb,Nc,Nk,Nf,Ng,Nh,Za,Zb,Zc,TT]
    refine hK _ _ ?_;clear hK K
    refine awp_ret ?_
    simp only [retQ, AEnds, aresL, ares, List.toList_toArray, ↓upd_same]; try simp only [UP,DF,Nc,↓reduceIte,DT]
    exact ⟨_, s, AV.weak_any, AS.le.refl s, rfl, rfl⟩
  · refine wS fun K hK => ?_
    simp only [↓DN,UP,DF,Qa,Qb,Qc,Qd,Qe,Qf,Qg,Qh,reduceCtorEq,↓reduceIte,Na,Nb,Nc,Nk,Nf,Ng,Nh,Za,Zb,Zc,TT, h0]
    refine ⟨by omega, by omega, fun t ht => hK _ _ ?_⟩
    clear hK K
    refine awp_ret ?_
    simp only [retQ, AEnds, aresL, ares, List.toList_toArray, ↓upd_same]; try simp only [UP,DF,Nc,↓reduceIte,DT]
    exact ⟨_, s, AV.weak_any, AS.le_gain (AS.le.refl s) ht 0, rfl, rfl⟩

theorem bytesClone_calls (l : List UInt8) (s : AS) (hl : l.length ≤ 2 ^ 45) : ACalls Tryz.prog Γ 94 [bytesV l .any] s (fun r s' => r = bytesV l .any ∧ s' = s) :=
  ACalls.any (pre := []) (post := []) (fun e => by subst e; exact bytesClone_nil s) (bytesClone_no l s hl)

end Go.Proofs.YtcnilmidfhpckaaGreatDoor


set_option autoImplicit false
namespace Go.Proofs.YtcnilmidfhpckaaGreatDoor
open Go Go.AM Go.Proofs

variable {Γ : Nat → List AV}

theorem leaves20_calls (hG : Γ 3 = dB64.map u8C) (t : List NodeV) (ht : TreeW t) (s : AS) : ACalls Tryz.prog Γ 33 [treeV t] s (fun r s' => r = .v (.int .i64 (if rightT t then lvs t else 0 : Nat)) ∧ s' = s) := by
  refine acalls_body Tryz.func33 rfl Tryz.ntmps33 Tryz.results33 (by simp) ?_
  have hr := fun s => right20_calls (Γ := Γ) hG t ht s
  have hl := fun s => leaves_calls (Γ := Γ) t ht.1 s
  unfold treeV at *
  generalize rowC NodeV.cells t = X at *
  refine wS fun K hK => ?_
  simp only [↓DN,UP,DF,Qa,Qb,Qc,Qd,Qe,Qf,Qg,Qh,reduceCtorEq,↓reduceIte,Na,Nb,Nc,Nk,Nf,Ng,Nh,Za,Zb,Zc,TT]
  refine hK _ _ ?_;clear hK K
  refine wK fun K hK => ?_
  refine wS fun K hK => ?_
  simp only [↓DN,UP,DF,Qa,Qb,Qc,Qd,Qe,Qf,Qg,Qh,reduceCtorEq,↓reduceIte,Na,Nb,Nc,Nk,Nf,Ng,Nh,Za,Zb,Zc,TT]
  refine acallk (hr _) ?_
  rintro r s1 ⟨rfl, rfl⟩
  by_cases h : rightT t
  · rw [decide_eq_true h]
    simp only [↓AXq_nil,↓AXq_cons,pval,DX,Nat.reduceBEq,↓DN,UP,DF,Qa,Qb,Qc,Qd,Qe,Qf,Qg,Qh,reduceCtorEq,↓reduceIte,Na,Nb,Nc,Nk,Nf,Ng,Nh,Za,Zb,Zc,TT]
    refine hK _ _ ?_;clear hK K
    refine wC fun X Y hX hY => ?_
    simp only [↓DN,UP,DF,Qa,Qb,Qc,Qd,Qe,Qf,Qg,Qh,reduceCtorEq,↓reduceIte,Na,Nb,Nc,Nk,Nf,Ng,Nh,Za,Zb,Zc,TT, DB]
    refine hY ?_;clear hX hY X Y
    refine awp_skip ?_
    refine hK _ _ ?_;clear hK K
    refine wS fun K hK => ?_
    simp only [↓DN,UP,DF,Qa,Qb,Qc,Qd,Qe,Qf,Qg,Qh,reduceCtorEq,↓reduceIte,Na,Nb,Nc,Nk,Nf,Ng,Nh,Za,Zb,Zc,TT]
    refine acallk (hl _) ?_
    rintro r s2 ⟨rfl, rfl⟩
    simp only [↓AXq_nil,↓AXq_cons,pval,DX,Nat.reduceBEq,↓DN,UP,DF,Qa,Qb,Qc,Qd,Qe,Qf,Qg,Qh,reduceCtorEq,↓reduceIte,Na,Nb,Nc,Nk,Nf,Ng,Nh,Za,Zb,Zc,TT]
    refine hK _ _ ?_;clear hK K
    refine awp_ret ?_
    try simp only [thenQ, blockQ]
    simp only [retQ, AEnds, aresL, ares, List.toList_toArray, ↓upd_same]; try simp only [UP,DF,Nc,↓reduceIte,DT]
    rw [if_pos h]
    exact ⟨_, _, AV.weak.refl _, AS.le.refl _, rfl, rfl⟩
  · rw [decide_eq_false h]
    simp only [↓AXq_nil,↓AXq_cons,pval,DX,Nat.reduceBEq,↓DN,UP,DF,Qa,Qb,Qc,Qd,Qe,Qf,Qg,Qh,reduceCtorEq,↓reduceIte,Na,Nb,Nc,Nk,Nf,Ng,Nh,Za,Zb,Zc,TT]
    refine hK _ _ ?_;clear hK K
    refine wC fun X Y hX hY => ?_
    simp only [↓DN,UP,DF,Qa,Qb,Qc,Qd,Qe,Qf,Qg,Qh,reduceCtorEq,↓reduceIte,Na,Nb,Nc,Nk,Nf,Ng,Nh,Za,Zb,Zc,TT, DB]
    refine hX ?_;clear hX hY X Y
    refine wS fun K hK => ?_
    simp only [↓DN,UP,DF,Qa,Qb,Qc,Qd,Qe,Qf,Qg,Qh,reduceCtorEq,↓reduceIte,Na,Nb,Nc,Nk,Nf,Ng,Nh,Za,Zb,Zc,TT]
    refine hK _ _ ?_;clear hK K
    refine awp_ret ?_
    try simp only [thenQ, blockQ]
    simp only [retQ, AEnds, aresL, ares, List.toList_toArray, ↓upd_same]; try simp only [UP,DF,Nc,↓reduceIte,DT]
    rw [if_neg h]
    exact ⟨_, _, AV.weak.refl _, AS.le.refl _, rfl, rfl⟩

end Go.Proofs.YtcnilmidfhpckaaGreatDoor


