/- Contracts of the program's functions, each walked once; the conditions stand in each theorem. -/
import Derived.Test.YtcnilmidfhpckaaGreatDoorAMp6
import Derived.Test.YtcnilmidfhpckaaGreatDoorW1
import Derived.Test.YtcnilmidfhpckaaGreatDoorW7
import Derived.Test.YtcnilmidfhpckaaGreatDoorW6
import Derived.Test.YtcnilmidfhpckaaGreatDoorW4
import Derived.Test.YtcnilmidfhpckaaGreatDoorW5
set_option linter.unusedSimpArgs false
set_option linter.unusedVariables false
open Nat renaming reduceLT → Na, reduceLeDiff → Nb, reduceEqDiff → Nc, reduceAdd → Nk, reduceMul → Nf, reducePow → Ng, reduceSub → Nh
open Int renaming reduceLT → Za, reduceLE → Zb, reduceToNat → Zc
open Go.AM renaming ashift → Qa, aconv → Qb, aindexAddr → Qc, aindex → Qd, aslice → Qe, abuiltin → Qf, awp_reg_seq → wS, awp_reg_end → wE, awp_seq_k → wK, awp_cond_k → wC
open Go.AM.AV renaming cells → Qg, one → Qh
set_option autoImplicit false
namespace Go.Proofs.YtcnilmidfhpckaaGreatDoor
open Go Go.AM Go.Proofs


variable {Γ : Nat → List AV}

theorem take_eqL {α : Type} {a b : List α} {i : Nat} (ha : i < a.length) (hb : i < b.length) (h : a.take i = b.take i) (he : a[i] = b[i]) : a.take (i + 1) = b.take (i + 1) := by
  rw [List.take_succ_eq_append_getElem ha, List.take_succ_eq_append_getElem hb, h, he]
theorem take_fullL {α : Type} {a b : List α} {i : Nat} (hl : a.length = b.length) (ha : ¬ i < a.length) (h : a.take i = b.take i) : a = b := by
  rwa [List.take_of_length_le (by omega), List.take_of_length_le (by omega)] at h

set_option maxRecDepth 100000 in
set_option maxHeartbeats 4000000 in
theorem same20_calls (a b : List NodeV) (ha : TreeW a) (s : AS) : ACalls Tryz.prog Γ 14 [treeV a, treeV b] s (fun r s' => r = .v (.bool (decide (a = b))) ∧ s' = s) := by
  refine acalls_body Tryz.func14 rfl Tryz.ntmps14 Tryz.results14 (by simp) ?_
  have hrow1 := fun i (h : i < a.length) => row_at (c := NodeV.cells) (k := 5) (fun _ => rfl) h
  have hrow2 := fun i (h : i < b.length) => row_at (c := NodeV.cells) (k := 5) (fun _ => rfl) h
  have hal := ha.1
  unfold treeV
  generalize rowC NodeV.cells a = XA at *
  generalize rowC NodeV.cells b = XB at *
  refine wS fun K hK => ?_
  simp only [↓DN,UP,DF,Qa,Qb,Qc,Qd,Qe,Qf,Qg,Qh,reduceCtorEq,↓reduceIte,Na,Nb,Nc,Nk,Nf,Ng,Nh,Za,Zb,Zc,TT]
  refine hK _ _ ?_;clear hK K
  refine wK fun K hK => ?_
  by_cases hl : a.length = b.length
  · refine wS fun K hK => ?_
    simp only [↓DN,UP,DF,Qa,Qb,Qc,Qd,Qe,Qf,Qg,Qh,reduceCtorEq,↓reduceIte,Na,Nb,Nc,Nk,Nf,Ng,Nh,Za,Zb,Zc,TT, natEq hl]
    refine hK _ _ ?_;clear hK K
    refine wC fun X Y hX hY => ?_
    simp only [↓DN,UP,DF,Qa,Qb,Qc,Qd,Qe,Qf,Qg,Qh,reduceCtorEq,↓reduceIte,Na,Nb,Nc,Nk,Nf,Ng,Nh,Za,Zb,Zc,TT, DB]
    refine hY ?_;clear hX hY X Y
    refine awp_skip ?_
    refine hK _ _ ?_;clear hK K
    refine wK fun K hK => ?_
    refine wS fun K hK => ?_
    simp only [↓DN,UP,DF,Qa,Qb,Qc,Qd,Qe,Qf,Qg,Qh,reduceCtorEq,↓reduceIte,Na,Nb,Nc,Nk,Nf,Ng,Nh,Za,Zb,Zc,TT]
    refine hK _ _ ?_;clear hK K
    refine awp_block ?_
    refine awp_loop (fun E s2 => ∃ i : Nat, i ≤ a.length ∧ E 5 = .v (.int .i64 i) ∧ E 0 = .sl 5 a.length XA .any ∧ E 1 = .sl 5 b.length XB .any ∧ a.take i = b.take i ∧ s2 = s)
      (fun E _ => match E 5 with | .v (.int _ i) => a.length - i.toNat | _ => 0) ?_ ?_
    · exact ⟨0, Nat.zero_le _, by simp only [upd, Nc, ↓reduceIte]; rfl, by simp only [upd, initE, List.getD_cons_zero, List.getD_cons_succ, Nc, ↓reduceIte], by simp only [upd, initE, List.getD_cons_zero, List.getD_cons_succ, Nc, ↓reduceIte], by simp, rfl⟩
    · rintro E1 s2 ⟨i, hi, g5, g0, g1, hall, rfl⟩ -
      refine wK fun K2 hK2 => ?_
      by_cases hi' : i < a.length
      · refine wS fun K hK => ?_
        simp only [↓DN,UP,DF,Qa,Qb,Qc,Qd,Qe,Qf,Qg,Qh,reduceCtorEq,↓reduceIte,Na,Nb,Nc,Nk,Nf,Ng,Nh,Za,Zb,Zc,TT, g5, g0, eye_lt_nat, decide_eq_true hi']
        refine hK _ _ ?_;clear hK K
        refine wC fun X Y hX hY => ?_
        simp only [↓DN,UP,DF,Qa,Qb,Qc,Qd,Qe,Qf,Qg,Qh,reduceCtorEq,↓reduceIte,Na,Nb,Nc,Nk,Nf,Ng,Nh,Za,Zb,Zc,TT, DB]
        refine hX ?_;clear hX hY X Y
        refine awp_skip ?_
        refine hK2 _ _ ?_;clear hK2 K2
        refine wK fun K3 hK3 => ?_
        refine awp_block ?_
        have hi2 : i < b.length := by omega
        have hat1 := hrow1 i hi'
        have hat2 := hrow2 i hi2
        have hge : (0 : Int) ≤ (i : Int) := by omega
        have hyes : a[i] = b[i] → a.take (i + 1) = b.take (i + 1) := take_eqL hi' hi2 hall
        have hno : a[i] ≠ b[i] → decide (a = b) = false := fun h => decide_eq_false fun q => h (by subst q; rfl)
        have hsm := fun s => refSame19_calls (Γ := Γ) a[i] b[i] (ha.2 _ (List.getElem_mem hi')).1 s
        generalize a[i] = y1 at *
        generalize b[i] = y2 at *
        obtain ⟨P, hP⟩ : ∃ P, P = decide (y1 = y2) := ⟨_, rfl⟩
        rw [← hP] at hsm
        obtain ⟨nk, nm, ny, npa, nu⟩ := y1
        obtain ⟨mk, mm, my, mpa, mu⟩ := y2
        unfold NodeV.cells at hat1 hat2 hsm
        simp only at hat1 hat2 hsm
        unfold intsV at hat1 hat2 hsm
        refine awp_drw_seq T.mixed [8] (by kernel_rfl) ?_
        intro K hK
        simp only [↓AXq_nil,↓AXq_cons,pval,DX,Nat.reduceBEq,↓DN,UP,DF,Qa,Qb,Qc,Qd,Qe,Qf,Qg,Qh,reduceCtorEq,↓reduceIte,Na,Nb,Nc,Nk,Nf,Ng,Nh,Za,Zb,Zc,TT, g5, g0, g1, eye_lt_nat, hi', hi2, hge, hat1, hat2]
        refine acallk (hsm _) ?_
        rintro r s3 ⟨rfl, rfl⟩
        cases P with
        | true =>
          simp only [↓AXq_nil,↓AXq_cons,pval,DX,Nat.reduceBEq,↓DN,UP,DF,Qa,Qb,Qc,Qd,Qe,Qf,Qg,Qh,reduceCtorEq,↓reduceIte,Na,Nb,Nc,Nk,Nf,Ng,Nh,Za,Zb,Zc,TT]
          refine hK _ _ ?_;clear hK K
          refine wC fun X Y hX hY => ?_
          simp only [↓DN,UP,DF,Qa,Qb,Qc,Qd,Qe,Qf,Qg,Qh,reduceCtorEq,↓reduceIte,Na,Nb,Nc,Nk,Nf,Ng,Nh,Za,Zb,Zc,TT, DB]
          refine hY ?_;clear hX hY X Y
          refine awp_skip ?_
          simp only [blockQ, thenQ, if_true, if_false]
          refine hK3 _ _ ?_;clear hK3 K3
          refine wE fun K hK => ?_
          simp only [↓DN,UP,DF,Qa,Qb,Qc,Qd,Qe,Qf,Qg,Qh,reduceCtorEq,↓reduceIte,Na,Nb,Nc,Nk,Nf,Ng,Nh,Za,Zb,Zc,TT, g5, eye_succM i (by omega)]
          refine hK _ _ ?_;clear hK K
          refine ⟨⟨i + 1, by omega, by simp only [upd, Nc, ↓reduceIte], by simp only [upd, g0, Nc, ↓reduceIte], by simp only [upd, g1, Nc, ↓reduceIte], hyes (of_decide_eq_true hP.symm), rfl⟩, ?_⟩
          simp only [g5, upd, ↓reduceIte]
          omega
        | false =>
          simp only [↓AXq_nil,↓AXq_cons,pval,DX,Nat.reduceBEq,↓DN,UP,DF,Qa,Qb,Qc,Qd,Qe,Qf,Qg,Qh,reduceCtorEq,↓reduceIte,Na,Nb,Nc,Nk,Nf,Ng,Nh,Za,Zb,Zc,TT]
          refine hK _ _ ?_;clear hK K
          refine wC fun X Y hX hY => ?_
          simp only [↓DN,UP,DF,Qa,Qb,Qc,Qd,Qe,Qf,Qg,Qh,reduceCtorEq,↓reduceIte,Na,Nb,Nc,Nk,Nf,Ng,Nh,Za,Zb,Zc,TT, DB]
          refine hX ?_;clear hX hY X Y
          refine wS fun K hK => ?_
          simp only [↓DN,UP,DF,Qa,Qb,Qc,Qd,Qe,Qf,Qg,Qh,reduceCtorEq,↓reduceIte,Na,Nb,Nc,Nk,Nf,Ng,Nh,Za,Zb,Zc,TT]
          refine hK _ _ ?_;clear hK K
          refine awp_ret ?_
          try simp only [thenQ, blockQ]
          simp only [retQ, AEnds, aresL, ares, List.toList_toArray, ↓upd_same]; try simp only [UP,DF,Nc,↓reduceIte,DT]
          rw [hno (of_decide_eq_false hP.symm)]
          exact ⟨_, _, AV.weak.refl _, AS.le.refl _, rfl, rfl⟩
      · refine wS fun K hK => ?_
        simp only [↓DN,UP,DF,Qa,Qb,Qc,Qd,Qe,Qf,Qg,Qh,reduceCtorEq,↓reduceIte,Na,Nb,Nc,Nk,Nf,Ng,Nh,Za,Zb,Zc,TT, g5, g0, eye_lt_nat, decide_eq_false hi']
        refine hK _ _ ?_;clear hK K
        refine wC fun X Y hX hY => ?_
        simp only [↓DN,UP,DF,Qa,Qb,Qc,Qd,Qe,Qf,Qg,Qh,reduceCtorEq,↓reduceIte,Na,Nb,Nc,Nk,Nf,Ng,Nh,Za,Zb,Zc,TT, DB]
        refine hY ?_;clear hX hY X Y
        refine awp_exit ?_
        simp only [thenQ, blockQ, if_true]
        refine hK _ _ ?_;clear hK hK2 K2 K
        have hab : a = b := take_fullL hl hi' hall
        refine wS fun K hK => ?_
        simp only [↓DN,UP,DF,Qa,Qb,Qc,Qd,Qe,Qf,Qg,Qh,reduceCtorEq,↓reduceIte,Na,Nb,Nc,Nk,Nf,Ng,Nh,Za,Zb,Zc,TT]
        refine hK _ _ ?_;clear hK K
        refine awp_ret ?_
        try simp only [thenQ, blockQ]
        simp only [retQ, AEnds, aresL, ares, List.toList_toArray, ↓upd_same]; try simp only [UP,DF,Nc,↓reduceIte,DT]
        rw [decide_eq_true hab]
        exact ⟨_, _, AV.weak.refl _, AS.le.refl _, rfl, rfl⟩
  · refine wS fun K hK => ?_
    simp only [↓DN,UP,DF,Qa,Qb,Qc,Qd,Qe,Qf,Qg,Qh,reduceCtorEq,↓reduceIte,Na,Nb,Nc,Nk,Nf,Ng,Nh,Za,Zb,Zc,TT, natNe hl]
    refine hK _ _ ?_;clear hK K
    refine wC fun X Y hX hY => ?_
    simp only [↓DN,UP,DF,Qa,Qb,Qc,Qd,Qe,Qf,Qg,Qh,reduceCtorEq,↓reduceIte,Na,Nb,Nc,Nk,Nf,Ng,Nh,Za,Zb,Zc,TT, DB]
    refine hX ?_;clear hX hY X Y
    refine wS fun K hK => ?_
    simp only [↓DN,UP,DF,Qa,Qb,Qc,Qd,Qe,Qf,Qg,Qh,reduceCtorEq,↓reduceIte,Na,Nb,Nc,Nk,Nf,Ng,Nh,Za,Zb,Zc,TT]
    refine hK _ _ ?_;clear hK K
    refine awp_ret ?_
    try simp only [thenQ, blockQ]
    simp only [retQ, AEnds, aresL, ares, List.toList_toArray, ↓upd_same]; try simp only [UP,DF,Nc,↓reduceIte,DT]
    rw [decide_eq_false (fun q => hl (by rw [q]))]
    exact ⟨_, _, AV.weak.refl _, AS.le.refl _, rfl, rfl⟩

end Go.Proofs.YtcnilmidfhpckaaGreatDoor


set_option autoImplicit false
namespace Go.Proofs.YtcnilmidfhpckaaGreatDoor
open Go Go.AM Go.Proofs

variable {Γ : Nat → List AV}

/-- A word. -/
abbrev wV (x : Nat) : AV := .v (.int .u32 (x : Int))

end Go.Proofs.YtcnilmidfhpckaaGreatDoor


set_option autoImplicit false
namespace Go.Proofs.YtcnilmidfhpckaaGreatDoor
open Go Go.AM Go.Proofs

variable {Γ : Nat → List AV}

/-- A row of words that is being filled. -/
def row (c : List UInt8) (i : Nat) : List AV := (Sha.sch c i).map wV ++ List.replicate (64 - i) (wV 0)
theorem row_len (c : List UInt8) (i : Nat) (h : i ≤ 64) : (row c i).length = 64 := by
  simp [row, Sha.sch_length]; omega
end Go.Proofs.YtcnilmidfhpckaaGreatDoor


set_option autoImplicit false
namespace Go.Proofs.YtcnilmidfhpckaaGreatDoor
open Go Go.AM Go.Proofs

variable {Γ : Nat → List AV}

theorem cap0 : ((0 : Nat) : Int) = 0 := rfl

end Go.Proofs.YtcnilmidfhpckaaGreatDoor


set_option autoImplicit false
namespace Go.Proofs.YtcnilmidfhpckaaGreatDoor
open Go Go.AM Go.Proofs

variable {Γ : Nat → List AV}

/-- What the outer round keeps. -/
structure Kp (oh m : Nat) (pl : List UInt8) (sp : Sp) (i : Nat) (E : Env) : Prop where
  h3 : E 3 = .osl oh 0 1 8 8
  h4 : E 4 = .sl 1 64 (Sha.K.map wV) .no
  h5 : E 5 = .sl 1 (64 * m) (pl.map byteV) sp
  h6 : E 6 = .v (.int .i64 ((64 * i : Nat) : Int))
theorem Kp.upd {oh m i d : Nat} {pl : List UInt8} {sp : Sp} {E : Env} {v : AV} (h : Kp oh m pl sp i E) (hd : d ≠ 3 ∧ d ≠ 4 ∧ d ≠ 5 ∧ d ≠ 6) : Kp oh m pl sp i (upd E d v) :=
  ⟨by rw [upd_ne _ _ (Ne.symm hd.1)]; exact h.h3, by rw [upd_ne _ _ (Ne.symm hd.2.1)]; exact h.h4, by rw [upd_ne _ _ (Ne.symm hd.2.2.1)]; exact h.h5, by rw [upd_ne _ _ (Ne.symm hd.2.2.2)]; exact h.h6⟩
structure Kq (ow : Nat) (E : Env) : Prop where
  h7 : E 7 = .osl ow 0 1 64 64
theorem Kq.upd {ow d : Nat} {E : Env} {v : AV} (h : Kq ow E) (hd : d ≠ 7) : Kq ow (upd E d v) := ⟨by rw [upd_ne _ _ (Ne.symm hd)]; exact h.h7⟩
structure Kr (cs : List AV) (sp : Sp) (E : Env) : Prop where
  h13 : E 13 = .sl 1 8 cs sp
theorem Kr.upd {cs : List AV} {sp : Sp} {d : Nat} {E : Env} {v : AV} (h : Kr cs sp E) (hd : d ≠ 13) : Kr cs sp (upd E d v) := ⟨by rw [upd_ne _ _ (Ne.symm hd)]; exact h.h13⟩
end Go.Proofs.YtcnilmidfhpckaaGreatDoor


set_option autoImplicit false
namespace Go.Proofs.YtcnilmidfhpckaaGreatDoor
open Go Go.AM Go.Proofs

variable {Γ : Nat → List AV}



theorem k102 : callable Tryz.prog 128 = true := by kernel_rfl
theorem penSmall_len (k : Nat) (n : Int) (st : List UInt8 × Bool) : (penSmall k n st).1.length ≤ st.1.length + k := by
  unfold penSmall penNum
  split
  · split
    · omega
    · simp
  · simp only; omega

end Go.Proofs.YtcnilmidfhpckaaGreatDoor


set_option autoImplicit false
namespace Go.Proofs.YtcnilmidfhpckaaGreatDoor
open Go Go.AM Go.Proofs

variable {Γ : Nat → List AV}

def RES (s0 : AS) (k : Nat) (cs : List AV) (L : List Int) (r : AV) (s' : AS) : Prop := RBuf 1 s0 s' r (k + L.length) (cs ++ L.map intC) ∧ s0.le s'

end Go.Proofs.YtcnilmidfhpckaaGreatDoor


set_option autoImplicit false
namespace Go.Proofs.YtcnilmidfhpckaaGreatDoor
open Go Go.AM Go.Proofs


variable {Γ : Nat → List AV}

/-- A clone of one's own, with room behind it. -/
def NewBuf (s s' : AS) (r : AV) (l : List Int) : Prop := OBuf 1 s' r l.length (l.map intC) ∧ (∀ o, onm r = some o → s.objs o = none) ∧ s.le s'

set_option maxHeartbeats 400000 in
theorem intsCloneB_nil (s : AS) : ACalls Tryz.prog Γ 124 [nilS] s (fun r s' => NewBuf s s' r []) := by
  refine acalls_body Tryz.func124 rfl Tryz.ntmps124 Tryz.results124 (by simp) ?_
  unfold nilS
  refine wS fun K hK => ?_
  simp only [↓DN,UP,DF,Qa,Qb,Qc,Qd,Qe,Qf,Qg,Qh,reduceCtorEq,↓reduceIte,Na,Nb,Nc,Nk,Nf,Ng,Nh,Za,Zb,Zc,TT]
  refine hK _ _ ?_;clear hK K
  refine wK fun K hK => ?_
  refine wS fun K hK => ?_
  simp only [↓DN,UP,DF,Qa,Qb,Qc,Qd,Qe,Qf,Qg,Qh,reduceCtorEq,↓reduceIte,Na,Nb,Nc,Nk,Nf,Ng,Nh,Za,Zb,Zc,TT]
  refine hK _ _ ?_;clear hK K
  refine wC fun X Y hX hY => ?_
  simp only [↓DN,UP,DF,Qa,Qb,Qc,Qd,Qe,Qf,Qg,Qh,reduceCtorEq,↓reduceIte,Na,Nb,Nc,Nk,Nf,Ng,Nh,Za,Zb,Zc,TT, DB]
  refine hX ?_;clear hX hY X Y
  refine wS fun K hK => ?_
  simp only [↓DN,UP,DF,Qa,Qb,Qc,Qd,Qe,Qf,Qg,Qh,reduceCtorEq,↓reduceIte,Na,Nb,Nc,Nk,Nf,Ng,Nh,Za,Zb,Zc,TT]
  refine hK _ _ ?_;clear hK K
  refine awp_ret ?_
  simp only [retQ, AEnds, aresL, ares, List.toList_toArray, ↓upd_same]; try simp only [UP,DF,Nc,↓reduceIte,DT]
  exact ⟨_, _, AV.weak.refl _, AS.le.refl _, .inl ⟨rfl, rfl, .inl rfl⟩, (fun o h => by cases h), AS.le.refl _⟩

set_option maxHeartbeats 400000 in
theorem intsCloneB_no (l : List Int) (s : AS) (hl : l.length ≤ 2 ^ 42) : ACalls Tryz.prog Γ 124 [intsV l .no] s (fun r s' => NewBuf s s' r l) := by
  refine acalls_body Tryz.func124 rfl Tryz.ntmps124 Tryz.results124 (by simp) ?_
  unfold intsV
  refine wS fun K hK => ?_
  simp only [↓DN,UP,DF,Qa,Qb,Qc,Qd,Qe,Qf,Qg,Qh,reduceCtorEq,↓reduceIte,Na,Nb,Nc,Nk,Nf,Ng,Nh,Za,Zb,Zc,TT]
  refine hK _ _ ?_;clear hK K
  refine wK fun K hK => ?_
  refine wS fun K hK => ?_
  simp only [↓DN,UP,DF,Qa,Qb,Qc,Qd,Qe,Qf,Qg,Qh,reduceCtorEq,↓reduceIte,Na,Nb,Nc,Nk,Nf,Ng,Nh,Za,Zb,Zc,TT, Bool.false_eq_true, and_false]
  refine hK _ _ ?_;clear hK K
  refine wC fun X Y hX hY => ?_
  simp only [↓DN,UP,DF,Qa,Qb,Qc,Qd,Qe,Qf,Qg,Qh,reduceCtorEq,↓reduceIte,Na,Nb,Nc,Nk,Nf,Ng,Nh,Za,Zb,Zc,TT, DB]
  refine hY ?_;clear hX hY X Y
  refine awp_skip ?_
  refine hK _ _ ?_;clear hK K
  by_cases h0 : l.length = 0
  · have hl0 : l = [] := List.eq_nil_of_length_eq_zero h0
    subst hl0
    refine wS fun K hK => ?_
    simp only [↓DN,UP,DF,Qa,Qb,Qc,Qd,Qe,Qf,Qg,Qh,reduceCtorEq,↓reduceIte,Na,Nb,Nc,Nk,Nf,Ng,Nh,Za,Zb,Zc,TT]
    refine hK _ _ ?_;clear hK K
    refine awp_ret ?_
    simp only [retQ, AEnds, aresL, ares, List.toList_toArray, ↓upd_same]; try simp only [UP,DF,Nc,↓reduceIte,DT]
    exact ⟨_, s, AV.weak.refl _, AS.le.refl s, .inl ⟨rfl, rfl, .inr (.inr rfl)⟩, (fun o h => by cases h), AS.le.refl _⟩
  · refine awp_reg_at2 rfl (by decide) ?_
    intro ops
    simp only [↓AXq_nil,↓AXq_cons,pval,DX,Nat.reduceBEq,↓DN,UP,DF,Qa,Qb,Qc,Qd,Qe,Qf,Qg,Qh,reduceCtorEq,↓reduceIte,Na,Nb,Nc,Nk,Nf,Ng,Nh,Za,Zb,Zc,TT]
    refine ⟨_, fun G a w hr => append_own_res (n := 0) (m := l.length) (cs := []) (ds := l.map intC) (e := 3) (z := [.v (.int .i64 0)]) rfl Tryz.underlying55 (by simp only [↓DN,UP,DF,Qa,Qb,Qc,Qd,Qe,Qf,Qg,Qh,reduceCtorEq,↓reduceIte,Na,Nb,Nc,Nk,Nf,Ng,Nh,Za,Zb,Zc,TT]; try rfl) (by simp only [↓DN,UP,DF,Qa,Qb,Qc,Qd,Qe,Qf,Qg,Qh,reduceCtorEq,↓reduceIte,Na,Nb,Nc,Nk,Nf,Ng,Nh,Za,Zb,Zc,TT]; try rfl) (by rw [T.c3]; decide) (by rw [T.c3]; rfl) (by simp only [↓DN,UP,DF,Qa,Qb,Qc,Qd,Qe,Qf,Qg,Qh,reduceCtorEq,↓reduceIte,Na,Nb,Nc,Nk,Nf,Ng,Nh,Za,Zb,Zc,TT, asrc, aeval, upd, Nc, ↓reduceIte]) h0 (by rw [T.b3]; omega) (by omega) (by simp [List.all_eq_true, intC, AV.one]) (by rw [T.c3]; exact .inl ⟨rfl, rfl, .inr (.inr rfl)⟩) hr.eval hr.st, ?_⟩
    rw [T.c3]
    rintro r s1 ⟨ob, cap, rest, rfl, hcap, h63, hrl, hob, rfl⟩
    simp only [↓AXq_nil,↓AXq_cons,pval,DX,Nat.reduceBEq,↓DN,UP,DF,Qa,Qb,Qc,Qd,Qe,Qf,Qg,Qh,reduceCtorEq,↓reduceIte,Na,Nb,Nc,Nk,Nf,Ng,Nh,Za,Zb,Zc,TT]
    refine awp_ret ?_
    simp only [retQ, AEnds, aresL, ares, List.toList_toArray, ↓upd_same]; try simp only [UP,DF,Nc,↓reduceIte,DT]
    have hob : s.objs ob = none := by
      rcases hob with h | ⟨_, h⟩
      · exact h
      · simp [aeval, upd] at h
    rw [Nat.zero_add, Nat.mul_one] at *
    refine ⟨_, _, AV.weak.refl _, AS.le.refl _, .inr ⟨ob, cap, rest, rfl, AS.set_objs_same _ _ _, by simp, by rw [Nat.mul_one]; exact hrl, hcap, h63⟩, fun o h => ?_, AS.le_set (AS.le.refl s) hob _⟩
    cases h
    exact hob

theorem intsCloneB_calls (l : List Int) (s : AS) (hl : l.length ≤ 2 ^ 42) : ACalls Tryz.prog Γ 124 [intsV l .any] s (fun r s' => NewBuf s s' r l) :=
  ACalls.anyS (post := []) (fun e _ => by obtain rfl : l = [] := List.eq_nil_of_length_eq_zero e; exact intsCloneB_nil s) (intsCloneB_no l s hl)

end Go.Proofs.YtcnilmidfhpckaaGreatDoor


set_option autoImplicit false
namespace Go.Proofs.YtcnilmidfhpckaaGreatDoor
open Go Go.AM Go.Proofs


variable {Γ : Nat → List AV}

set_option maxRecDepth 100000 in
set_option maxHeartbeats 2000000 in
theorem nodeCloneB_calls (N : NodeV) (hm : N.name.length ≤ 2 ^ 45) (hp : N.parent.length ≤ 2 ^ 45) (hu : N.unm.length ≤ 2 ^ 42) (s : AS) : ACalls Tryz.prog Γ 102 [.agg N.cells] s (fun r s' => ∃ x, r = .agg (cellsX (N, x)) ∧ NewBuf s s' x N.unm) := by
  refine acalls_body Tryz.func102 rfl Tryz.ntmps102 Tryz.results102 (by simp) ?_
  unfold NodeV.cells
  obtain ⟨k, m, y, pa, u⟩ := N
  simp only at hp hu hm
  refine wS fun K hK => ?_
  simp only [↓DN,UP,DF,Qa,Qb,Qc,Qd,Qe,Qf,Qg,Qh,reduceCtorEq,↓reduceIte,Na,Nb,Nc,Nk,Nf,Ng,Nh,Za,Zb,Zc,TT, intsV]
  intro o1 ho1 o2 ho2
  have h21 : o2 ≠ o1 := by
    rintro rfl
    simp [AS.set] at ho2
  have h12 := h21.symm
  have h20 : s.objs o2 = none := by simpa [AS.set, upd, h21] using ho2
  refine hK _ _ ?_;clear hK K
  refine awp_mrk_seq T.mixed [(o1, [.v (.int .i64 k), .sl 1 m.length (m.map byteV) .any, .v (.int .u64 y), .sl 1 pa.length (pa.map byteV) .any, .sl 1 u.length (u.map intC) .any])] [2, 5, 8] [1, 4, 7] [10, 12, 14] (by kernel_rfl) (by simp only [Pres_cons, Pres_nil, and_true]; simp [AS.set, upd, h12, h21]) ?_
  intro K hK
  simp only [↓AXr_nil, ↓AXr_cons, gval, lval, fzGet_cons, fzGet_nil, Pres_cons, Pres_nil, List.any_cons, List.any_nil, List.contains_cons, List.contains_nil, Nat.reduceBEq, Bool.or_false, Bool.or_true, Bool.or_self, Bool.false_or, ↓DN,UP,DF,Qa,Qb,Qc,Qd,Qe,Qf,Qg,Qh,reduceCtorEq,↓reduceIte,Na,Nb,Nc,Nk,Nf,Ng,Nh,Za,Zb,Zc,TT, h21, h12]
  refine acallk (bytesClone_calls m _ (by omega)) ?_
  rintro r s' ⟨rfl, rfl⟩
  simp only [↓AXq_nil, ↓AXq_cons, pval, ↓AXr_nil, ↓AXr_cons, gval, lval, fzGet_cons, fzGet_nil, Pres_cons, Pres_nil, List.any_cons, List.any_nil, DX, Nat.reduceBEq, ↓DN,UP,DF,Qa,Qb,Qc,Qd,Qe,Qf,Qg,Qh,reduceCtorEq,↓reduceIte,Na,Nb,Nc,Nk,Nf,Ng,Nh,Za,Zb,Zc,TT, h21, h12]
  refine acallk (bytesClone_calls pa _ hp) ?_
  rintro r s' ⟨rfl, rfl⟩
  simp only [↓AXq_nil, ↓AXq_cons, pval, ↓AXr_nil, ↓AXr_cons, gval, lval, fzGet_cons, fzGet_nil, Pres_cons, Pres_nil, List.any_cons, List.any_nil, DX, Nat.reduceBEq, ↓DN,UP,DF,Qa,Qb,Qc,Qd,Qe,Qf,Qg,Qh,reduceCtorEq,↓reduceIte,Na,Nb,Nc,Nk,Nf,Ng,Nh,Za,Zb,Zc,TT, h21, h12]
  refine acallk (intsCloneB_calls u _ hu) ?_
  rintro r s' ⟨hb, hnew, hle⟩
  have q1 : s'.objs o1 = some [.v (.int .i64 k), .sl 1 m.length (m.map byteV) .any, .v (.int .u64 y), .sl 1 pa.length (pa.map byteV) .any, .sl 1 u.length (u.map intC) .any] := hle.objs _ _ (by simp [AS.set, upd, h12])
  have q2 : s'.objs o2 = some [.v (.int .i64 0), .v (.slice none 0 0), .v (.int .u64 0), .v (.slice none 0 0), .v (.slice none 0 0)] := hle.objs _ _ (AS.set_objs_same _ _ _)
  have hs : s.le s' := (AS.le_set (AS.le_set (AS.le.refl s) ho1 _) h20 _).trans hle
  have n1 : onm r ≠ some o1 := fun e => by have := hnew o1 e; simp [AS.set, upd, h12] at this
  have n2 : onm r ≠ some o2 := fun e => by have := hnew o2 e; simp [AS.set] at this
  have n0 : ∀ o, onm r = some o → s.objs o = none := fun o e => AS.le_none (AS.le_set (AS.le_set (AS.le.refl s) ho1 _) h20 _) (hnew o e)
  have hone : r.one = true := by
    rcases hb with ⟨_, _, rfl | rfl | rfl⟩ | ⟨_, _, _, rfl, _⟩ <;> rfl
  have hcell : r.cells = [r] := by
    rcases hb with ⟨_, _, rfl | rfl | rfl⟩ | ⟨_, _, _, rfl, _⟩ <;> rfl
  unfold AV.cells at hcell
  unfold AV.one at hone
  simp only [↓AXq_nil, ↓AXq_cons, pval, ↓AXr_nil, ↓AXr_cons, gval, lval, fzGet_cons, fzGet_nil, Pres_cons, Pres_nil, List.any_cons, List.any_nil, DX, Nat.reduceBEq, ↓DN,UP,DF,Qa,Qb,Qc,Qd,Qe,Qf,Qg,Qh,reduceCtorEq,↓reduceIte,Na,Nb,Nc,Nk,Nf,Ng,Nh,Za,Zb,Zc,TT, q1, q2, hcell, h21, h12, intsV, hone]
  refine hK _ _ ?_;clear hK K
  refine wS fun K hK => ?_
  simp only [↓DN,UP,DF,Qa,Qb,Qc,Qd,Qe,Qf,Qg,Qh,reduceCtorEq,↓reduceIte,Na,Nb,Nc,Nk,Nf,Ng,Nh,Za,Zb,Zc,TT, q1, q2, hcell, h21, h12, intsV, hone]
  refine hK _ _ ?_;clear hK K
  refine awp_ret ?_
  refine aends_cell (o := o2) (off := 0) (by simp only [upd, Nc, ↓reduceIte]) (AS.set_objs_same _ _ _) (by rw [T.c68]; decide) (by simp only [↓DN,UP,DF,Qa,Qb,Qc,Qd,Qe,Qf,Qg,Qh,reduceCtorEq,↓reduceIte,Na,Nb,Nc,Nk,Nf,Ng,Nh,Za,Zb,Zc,TT]; rfl) ?_
  refine ⟨_, _, AV.weak.refl _, AS.le.refl _, r, rfl, ?_, n0, ?_⟩
  · first | exact ((((hb.set_ne n1).set_ne n1).set_ne n1).set_ne n2) | exact ((hb.set_ne n1).set_ne n2)
  · first | exact AS.le_set (AS.le_set (AS.le_set (AS.le_set hs ho1 _) ho1 _) ho1 _) h20 _ | exact AS.le_set (AS.le_set hs ho1 _) h20 _

end Go.Proofs.YtcnilmidfhpckaaGreatDoor


set_option autoImplicit false
namespace Go.Proofs.YtcnilmidfhpckaaGreatDoor
open Go Go.AM Go.Proofs


variable {Γ : Nat → List AV}

theorem zrow_quin (a b c d e : AV) : zrow 5 [a, b, c, d, e] = [a, b, c, d, e] := rfl

theorem TreeO.leR {s0 s s' : AS} {X : AV} {TS : List (NodeV × AV)} (h : TreeO s0 s X TS) (k : s.le s') : TreeO s0 s' X TS :=
  ⟨⟨fun p hp => (h.xs.buf p hp).le k, h.xs.new, h.xs.sep⟩, h.le.trans k, h.row.le k, h.newR, h.sepR⟩

/-- A node that fits a machine. -/
def NodeW (n : NodeV) : Prop := n.name.length ≤ 2 ^ 45 ∧ n.parent.length ≤ 2 ^ 45 ∧ n.unm.length ≤ 2 ^ 42

set_option maxRecDepth 100000 in
set_option maxHeartbeats 4000000 in
theorem clone20_calls (t : List NodeV) (ht : t.length ≤ 2 ^ 30) (hw : ∀ n ∈ t, NodeW n) (s : AS) : ACalls Tryz.prog Γ 65 [treeV t] s (fun r s' => ∃ TS, TS.map (·.1) = t ∧ TreeO s s' r TS) := by
  refine acalls_body Tryz.func65 rfl Tryz.ntmps65 Tryz.results65 (by simp) ?_
  have hat := fun i (h : i < t.length) => node_at (t := t) h
  have hnW : ∀ i (h : i < t.length), NodeW (nd t i) := fun i h => by rw [nd_get h]; exact hw _ (List.getElem_mem h)
  have htk : ∀ i (h : i < t.length), t.take (i + 1) = t.take i ++ [nd t i] := fun i h => by rw [List.take_succ_eq_append_getElem h, nd_get h]
  unfold treeV at *
  generalize rowC NodeV.cells t = X at *
  refine wS fun K hK => ?_
  simp only [↓DN,UP,DF,Qa,Qb,Qc,Qd,Qe,Qf,Qg,Qh,reduceCtorEq,↓reduceIte,Na,Nb,Nc,Nk,Nf,Ng,Nh,Za,Zb,Zc,TT]
  refine hK _ _ ?_;clear hK K
  refine wS fun K hK => ?_
  simp only [↓DN,UP,DF,Qa,Qb,Qc,Qd,Qe,Qf,Qg,Qh,reduceCtorEq,↓reduceIte,Na,Nb,Nc,Nk,Nf,Ng,Nh,Za,Zb,Zc,TT]
  refine hK _ _ ?_;clear hK K
  refine wK fun K hK => ?_
  refine wS fun K hK => ?_
  simp only [↓DN,UP,DF,Qa,Qb,Qc,Qd,Qe,Qf,Qg,Qh,reduceCtorEq,↓reduceIte,Na,Nb,Nc,Nk,Nf,Ng,Nh,Za,Zb,Zc,TT]
  refine hK _ _ ?_;clear hK K
  refine awp_block ?_
  refine awp_loop (fun E s2 => ∃ (i : Nat) (x : AV) (TS : List (NodeV × AV)), i ≤ t.length ∧ E 8 = .v (.int .i64 i) ∧ E 7 = .v (.int .i64 t.length) ∧ E 6 = .sl 5 t.length X .any ∧ E 3 = x ∧ TS.map (·.1) = t.take i ∧ TreeO s s2 x TS)
    (fun E _ => match E 8 with | .v (.int _ i) => t.length - i.toNat | _ => 0) ?_ ?_
  · exact ⟨0, _, [], Nat.zero_le _, by simp only [upd, Nc, ↓reduceIte]; rfl, by simp only [upd, Nc, ↓reduceIte], by simp only [upd, Nc, ↓reduceIte], by simp only [upd, Nc, ↓reduceIte]; rfl, rfl, TreeO.nil s⟩
  · rintro E1 s2 ⟨i, x, TS, hi, g8, g7, g6, g3, hT, hx⟩ -
    by_cases hi' : i < t.length
    · refine wS fun K hK => ?_
      simp only [↓DN,UP,DF,Qa,Qb,Qc,Qd,Qe,Qf,Qg,Qh,reduceCtorEq,↓reduceIte,Na,Nb,Nc,Nk,Nf,Ng,Nh,Za,Zb,Zc,TT, g8, g7, eye_lt_nat, decide_eq_true hi']
      refine hK _ _ ?_;clear hK K
      refine wK fun K2 hK2 => ?_
      refine wC fun X Y hX hY => ?_
      simp only [↓DN,UP,DF,Qa,Qb,Qc,Qd,Qe,Qf,Qg,Qh,reduceCtorEq,↓reduceIte,Na,Nb,Nc,Nk,Nf,Ng,Nh,Za,Zb,Zc,TT, DB]
      refine hX ?_;clear hX hY X Y
      refine awp_skip ?_
      refine hK2 _ _ ?_;clear hK2 K2
      refine wK fun K3 hK3 => ?_
      refine awp_block ?_
      have hat' := hat i hi'
      have hN := hnW i hi'
      have hstep := htk i hi'
      generalize nd t i = N at *
      have hTl : TS.length = i := by have := congrArg List.length hT; simp at this; omega
      have hge : (0 : Int) ≤ ((i : Nat) : Int) := by omega
      obtain ⟨nk, nm, ny, npa, nu⟩ := N
      unfold NodeV.cells at hat'
      simp only at hat'
      refine awp_reg_frz 5 (by decide) ?_
      intro K hK
      simp only [↓AXq_nil,↓AXq_cons,pval,DX,Nat.reduceBEq,↓DN,UP,DF,Qa,Qb,Qc,Qd,Qe,Qf,Qg,Qh,reduceCtorEq,↓reduceIte,Na,Nb,Nc,Nk,Nf,Ng,Nh,Za,Zb,Zc,TT, g6, g8, eye_lt_nat, hi', hge, hat', intsV]
      intro o1 h1
      refine hK _ _ o1 _ (by simp only [upd, Nc, ↓reduceIte]) h1 ?_
      clear hK K h1
      refine awp_region_at4 rfl (by decide) ?_
      intro ops
      simp only [↓AXq_nil,↓AXq_cons,pval,DX,Nat.reduceBEq,↓DN,UP,DF,Qa,Qb,Qc,Qd,Qe,Qf,Qg,Qh,reduceCtorEq,↓reduceIte,Na,Nb,Nc,Nk,Nf,Ng,Nh,Za,Zb,Zc,TT, g3]
      refine acallk (nodeCloneB_calls ⟨nk, nm, ny, npa, nu⟩ hN.1 hN.2.1 hN.2.2 _) ?_
      rintro r s3 ⟨xn, rfl, hb, hnew, hle3⟩
      unfold cellsX at *
      simp only [↓AXq_nil,↓AXq_cons,pval,DX,Nat.reduceBEq,↓DN,UP,DF,Qa,Qb,Qc,Qd,Qe,Qf,Qg,Qh,reduceCtorEq,↓reduceIte,Na,Nb,Nc,Nk,Nf,Ng,Nh,Za,Zb,Zc,TT, g3, zrow_quin]
      have hs0 : s2.le s3 := hle3
      have hrow : OBuf 5 s3 x i (rowC cellsX TS) := by
        have := hx.row.le hle3
        rwa [hTl] at this
      have hone : xn.one = true := by
        rcases hb with ⟨_, _, rfl | rfl | rfl⟩ | ⟨_, _, _, rfl, _⟩ <;> rfl
      refine ⟨_, fun G a w hr => append_own_res (n := i) (m := 1) (cs := rowC cellsX TS) (ds := cellsX (⟨nk, nm, ny, npa, nu⟩, xn)) (e := 68) rfl Tryz.underlying22 (by simp only [↓DN,UP,DF,Qa,Qb,Qc,Qd,Qe,Qf,Qg,Qh,reduceCtorEq,↓reduceIte,Na,Nb,Nc,Nk,Nf,Ng,Nh,Za,Zb,Zc,TT]; try rfl) T.z68 (by rw [T.c68]; decide) (by rw [T.c68]; rfl) (by rw [T.c68]; simp only [↓DN,UP,DF,Qa,Qb,Qc,Qd,Qe,Qf,Qg,Qh,reduceCtorEq,↓reduceIte,Na,Nb,Nc,Nk,Nf,Ng,Nh,Za,Zb,Zc,TT, asrc, aeval, upd, Nc, ↓reduceIte]; rfl) (by decide) (by rw [T.b68]; omega) (by omega) (by simp only [cellsX, List.all_cons, List.all_nil, hone]; rfl) (by rw [T.c68]; exact hrow) hr.eval hr.st, ?_⟩
      rw [T.c68]
      rintro r s4 ⟨ob, cap, rest, rfl, hcap, h63, hrl, hob, rfl⟩
      have hob' : s3.objs ob = none ∨ ∃ cap0, x = .osl ob 0 5 TS.length cap0 := by
        rw [hTl]; exact hob
      have hpush := (TreeO.leR hx hle3).push (p := (⟨nk, nm, ny, npa, nu⟩, xn)) (ob := ob) (cap := cap) (rest := rest) hb
        (fun o ho => ⟨AS.le_none hx.le (hnew o ho), (fun q hq e => by obtain ⟨ds, hd⟩ := (hx.xs.buf q hq).some e; rw [hnew o ho] at hd; cases hd), (fun e => by obtain ⟨ds, hd⟩ := hx.row.some e; rw [hnew o ho] at hd; cases hd)⟩)
        hob' (by rw [hTl]; exact hcap) h63 (by rw [hTl]; exact hrl)
      rw [hTl, List.append_assoc] at hpush
      simp only [↓AXq_nil,↓AXq_cons,pval,DX,Nat.reduceBEq,↓DN,UP,DF,Qa,Qb,Qc,Qd,Qe,Qf,Qg,Qh,reduceCtorEq,↓reduceIte,Na,Nb,Nc,Nk,Nf,Ng,Nh,Za,Zb,Zc,TT, g3]
      refine hK3 _ _ ?_;clear hK3 K3
      refine wE fun K hK => ?_
      simp only [↓DN,UP,DF,Qa,Qb,Qc,Qd,Qe,Qf,Qg,Qh,reduceCtorEq,↓reduceIte,Na,Nb,Nc,Nk,Nf,Ng,Nh,Za,Zb,Zc,TT, g8, eye_succM i (by omega)]
      refine hK _ _ ?_;clear hK K
      refine ⟨⟨i + 1, .osl ob 0 5 (i + 1) cap, TS ++ [(⟨nk, nm, ny, npa, nu⟩, xn)], by omega, by simp only [upd, Nc, ↓reduceIte], by simp only [upd, g7, Nc, ↓reduceIte], by simp only [upd, g6, Nc, ↓reduceIte], by simp only [upd, Nc, ↓reduceIte], by rw [List.map_append, hT, hstep]; rfl, hpush⟩, ?_⟩
      simp only [g8, upd, ↓reduceIte]
      omega
    · refine wS fun K hK => ?_
      simp only [↓DN,UP,DF,Qa,Qb,Qc,Qd,Qe,Qf,Qg,Qh,reduceCtorEq,↓reduceIte,Na,Nb,Nc,Nk,Nf,Ng,Nh,Za,Zb,Zc,TT, g8, g7, eye_lt_nat, decide_eq_false hi']
      refine hK _ _ ?_;clear hK K
      refine wK fun K2 hK2 => ?_
      refine wC fun X Y hX hY => ?_
      simp only [↓DN,UP,DF,Qa,Qb,Qc,Qd,Qe,Qf,Qg,Qh,reduceCtorEq,↓reduceIte,Na,Nb,Nc,Nk,Nf,Ng,Nh,Za,Zb,Zc,TT, DB]
      refine hY ?_;clear hX hY X Y
      refine awp_exit ?_
      simp only [thenQ, blockQ, if_true]
      refine hK _ _ ?_;clear hK hK2 K2 K
      obtain rfl : i = t.length := by omega
      refine wS fun K hK => ?_
      simp only [↓DN,UP,DF,Qa,Qb,Qc,Qd,Qe,Qf,Qg,Qh,reduceCtorEq,↓reduceIte,Na,Nb,Nc,Nk,Nf,Ng,Nh,Za,Zb,Zc,TT, g3]
      refine hK _ _ ?_;clear hK K
      refine awp_ret ?_
      try simp only [thenQ, blockQ]
      simp only [retQ, AEnds, aresL, ares, List.toList_toArray, ↓upd_same]; try simp only [UP,DF,Nc,↓reduceIte,DT]
      exact ⟨_, _, AV.weak.refl _, AS.le.refl _, TS, by rw [hT, List.take_length], hx⟩

end Go.Proofs.YtcnilmidfhpckaaGreatDoor


set_option autoImplicit false
namespace Go.Proofs.YtcnilmidfhpckaaGreatDoor
open Go Go.AM Go.Proofs


variable {Γ : Nat → List AV}

theorem eyeN1_lt (st : EyeSt) : (eyeNum 1 st).1 < 256 := Nat.lt_of_lt_of_le (eyeNum_lt 1 st) (by decide)
theorem treeN_weak {x : AV} {l : List NodeV} (h : x.weak (.sl 5 l.length (rowC NodeV.cells l) .any)) (h0 : l ≠ []) : x.weak (treeN l) := by
  unfold treeN
  rw [if_neg h0]
  exact h

/-! ### A tree is read -/
set_option maxRecDepth 100000 in
set_option maxHeartbeats 4000000 in
theorem treeRead_calls (hG : Γ 3 = dB64.map u8C) (s : AS) (p : Nat) (st : EyeSt) (hl : st.1.length ≤ 2 ^ 44) (h : s.objs p = some (eyeC st)) :
    ACalls Tryz.prog Γ 15 [.ptr p 0] s (fun r s' => r = treeN (treeRead st).1 ∧ s' = s.set p (eyeC (treeRead st).2)) := by
  refine acalls_body Tryz.func15 rfl Tryz.ntmps15 Tryz.results15 (by simp) ?_
  obtain ⟨q1, e1⟩ : ∃ q, q = eyeNum 1 st := ⟨_, rfl⟩
  have l1 : q1.2.1.length ≤ 2 ^ 44 := by rw [e1]; exact Nat.le_trans (eyeNum_len _ _) hl
  have k1 : q1.1 < 256 := by rw [e1]; exact eyeN1_lt _
  have hu8 := eyeU8_set (Γ := Γ) s p st h
  rw [← e1] at hu8
  have hfi := fun s => fits18_calls (Γ := Γ) (q1.1 : Int) s
  have hwd := fun s => width18_calls (Γ := Γ) (q1.1 : Int) s
  have hle0 : ∀ c, (s.drop p).le (s.set p c) := fun c => AS.le_set (AS.drop_le s p) (AS.drop_self s p) c
  by_cases hf : Fit q1.1
  · have htr : treeRead st = treeEnd (eyeNodes (2 * q1.1 - 1) q1.2) := by simp only [treeRead, ← e1, if_pos hf]
    rw [htr]
    rw [decide_eq_true (fitI_nat.2 hf)] at hfi
    have hwi : widI (q1.1 : Int) = ((2 * q1.1 - 1 : Nat) : Int) := by
      have := hf.le
      unfold widI
      rw [if_pos (fitI_nat.2 hf)]
      omega
    rw [hwi] at hwd
    have hfl := hf.le
    generalize hn : 2 * q1.1 - 1 = n at *
    refine wS fun K hK => ?_
    simp only [↓DN,UP,DF,Qa,Qb,Qc,Qd,Qe,Qf,Qg,Qh,reduceCtorEq,↓reduceIte,Na,Nb,Nc,Nk,Nf,Ng,Nh,Za,Zb,Zc,TT]
    refine hK _ _ ?_;clear hK K
    refine wS fun K hK => ?_
    simp only [↓DN,UP,DF,Qa,Qb,Qc,Qd,Qe,Qf,Qg,Qh,reduceCtorEq,↓reduceIte,Na,Nb,Nc,Nk,Nf,Ng,Nh,Za,Zb,Zc,TT]
    refine hK _ _ ?_;clear hK K
    refine wS fun K hK => ?_
    simp only [↓DN,UP,DF,Qa,Qb,Qc,Qd,Qe,Qf,Qg,Qh,reduceCtorEq,↓reduceIte,Na,Nb,Nc,Nk,Nf,Ng,Nh,Za,Zb,Zc,TT]
    refine acallk hu8 ?_
    rintro r s1 ⟨rfl, rfl⟩
    simp only [↓AXq_nil,↓AXq_cons,pval,DX,Nat.reduceBEq,↓DN,UP,DF,Qa,Qb,Qc,Qd,Qe,Qf,Qg,Qh,reduceCtorEq,↓reduceIte,Na,Nb,Nc,Nk,Nf,Ng,Nh,Za,Zb,Zc,TT]
    refine hK _ _ ?_;clear hK K
    refine wK fun K hK => ?_
    refine wS fun K hK => ?_
    simp only [↓DN,UP,DF,Qa,Qb,Qc,Qd,Qe,Qf,Qg,Qh,reduceCtorEq,↓reduceIte,Na,Nb,Nc,Nk,Nf,Ng,Nh,Za,Zb,Zc,TT]
    refine acallk (hfi _) ?_
    rintro r s2 ⟨rfl, rfl⟩
    simp only [↓AXq_nil,↓AXq_cons,pval,DX,Nat.reduceBEq,↓DN,UP,DF,Qa,Qb,Qc,Qd,Qe,Qf,Qg,Qh,reduceCtorEq,↓reduceIte,Na,Nb,Nc,Nk,Nf,Ng,Nh,Za,Zb,Zc,TT]
    refine hK _ _ ?_;clear hK K
    refine wC fun X Y hX hY => ?_
    simp only [↓DN,UP,DF,Qa,Qb,Qc,Qd,Qe,Qf,Qg,Qh,reduceCtorEq,↓reduceIte,Na,Nb,Nc,Nk,Nf,Ng,Nh,Za,Zb,Zc,TT, DB]
    refine hY ?_;clear hX hY X Y
    refine awp_skip ?_
    refine hK _ _ ?_;clear hK K
    refine wK fun K hK => ?_
    refine wS fun K hK => ?_
    simp only [↓DN,UP,DF,Qa,Qb,Qc,Qd,Qe,Qf,Qg,Qh,reduceCtorEq,↓reduceIte,Na,Nb,Nc,Nk,Nf,Ng,Nh,Za,Zb,Zc,TT]
    refine acallk (hwd _) ?_
    rintro r s3 ⟨rfl, rfl⟩
    simp only [↓AXq_nil,↓AXq_cons,pval,DX,Nat.reduceBEq,↓DN,UP,DF,Qa,Qb,Qc,Qd,Qe,Qf,Qg,Qh,reduceCtorEq,↓reduceIte,Na,Nb,Nc,Nk,Nf,Ng,Nh,Za,Zb,Zc,TT]
    refine hK _ _ ?_;clear hK K
    refine awp_block ?_
    refine awp_loop (fun E s2 => ∃ (i : Nat) (x : AV), i ≤ n ∧ E 14 = .v (.int .i64 i) ∧ E 13 = .v (.int .i64 n) ∧ E 3 = x ∧ E 0 = .ptr p 0 ∧ s2.objs p = some (eyeC (eyeNodes i q1.2).2) ∧ (s.drop p).le s2 ∧ RBuf 5 (s.drop p) s2 x i (rowC NodeV.cells (eyeNodes i q1.2).1))
      (fun E _ => match E 14 with | .v (.int _ i) => n - i.toNat | _ => 0) ?_ ?_
    · exact ⟨0, _, Nat.zero_le _, by simp only [upd, Nc, ↓reduceIte]; rfl, by simp only [upd, Nc, ↓reduceIte], by simp only [upd, Nc, ↓reduceIte]; rfl, by simp only [upd, initE, List.getD_cons_zero, List.getD_cons_succ, Nc, ↓reduceIte], AS.set_objs_same _ _ _, hle0 _, RBuf.nil _ _ _⟩
    · rintro E1 s4 ⟨i, x, hi, g14, g13, g3, g0, hob, hle, hx⟩ -
      have hSl : (eyeNodes i q1.2).2.1.length ≤ 2 ^ 44 := Nat.le_trans (eyeNodes_left _ _) l1
      have hLl := eyeNodes_len i q1.2
      by_cases hi' : i < n
      · refine wS fun K hK => ?_
        simp only [↓DN,UP,DF,Qa,Qb,Qc,Qd,Qe,Qf,Qg,Qh,reduceCtorEq,↓reduceIte,Na,Nb,Nc,Nk,Nf,Ng,Nh,Za,Zb,Zc,TT, g14, g13, eye_lt_nat, decide_eq_true hi']
        refine hK _ _ ?_;clear hK K
        refine wK fun K2 hK2 => ?_
        refine wC fun X Y hX hY => ?_
        simp only [↓DN,UP,DF,Qa,Qb,Qc,Qd,Qe,Qf,Qg,Qh,reduceCtorEq,↓reduceIte,Na,Nb,Nc,Nk,Nf,Ng,Nh,Za,Zb,Zc,TT, DB]
        refine hX ?_;clear hX hY X Y
        refine awp_skip ?_
        refine hK2 _ _ ?_;clear hK2 K2
        refine wK fun K3 hK3 => ?_
        refine awp_block ?_
        have hsu : eyeNodes (i + 1) q1.2 = ((eyeNodes i q1.2).1 ++ [(nodeRead (eyeNodes i q1.2).2).1], (nodeRead (eyeNodes i q1.2).2).2) := rfl
        have hend : ∀ (E : Env) (s5 : AS) (x2 : AV), E 14 = .v (.int .i64 i) → E 13 = .v (.int .i64 n) → E 3 = x2 → E 0 = .ptr p 0 → s5.objs p = some (eyeC (eyeNodes (i + 1) q1.2).2) → (s.drop p).le s5 → RBuf 5 (s.drop p) s5 x2 (i + 1) (rowC NodeV.cells (eyeNodes (i + 1) q1.2).1) → K3 E s5 := by
          intro E s5 x2 f14 f13 f3 f0 fo fle fx
          refine hK3 _ _ ?_;clear hK3 K3
          refine wE fun K hK => ?_
          simp only [↓DN,UP,DF,Qa,Qb,Qc,Qd,Qe,Qf,Qg,Qh,reduceCtorEq,↓reduceIte,Na,Nb,Nc,Nk,Nf,Ng,Nh,Za,Zb,Zc,TT, f14, eye_succM i (by omega)]
          refine hK _ _ ?_;clear hK K
          refine ⟨⟨i + 1, x2, by omega, by simp only [upd, Nc, ↓reduceIte], by simp only [upd, f13, Nc, ↓reduceIte], by simp only [upd, f3, Nc, ↓reduceIte], by simp only [upd, f0, Nc, ↓reduceIte], fo, fle, fx⟩, ?_⟩
          simp only [g14, upd, ↓reduceIte]
          omega
        clear hK3
        rw [hsu] at hend
        simp only [row_snoc] at hend
        generalize eyeNodes i q1.2 = Q at *
        have hrd := nodeRead_calls (Γ := Γ) s4 p Q.2 hSl hob
        generalize nodeRead Q.2 = R at *
        obtain ⟨⟨nk, nm, ny, npa, nu⟩, S⟩ := R
        simp only at hend hrd
        generalize rowC NodeV.cells Q.1 = L at *
        unfold NodeV.cells at hend hrd
        unfold bytesV intsV at hend hrd
        have hle2 : ∀ c, (s.drop p).le (s4.set p c) := fun c => AS.le_set hle (AS.drop_self s p) c
        rcases hx with ⟨rfl, hi0, hL0⟩ | ⟨t', e, rfl, ht', ht0⟩
        · refine wE fun K hK => ?_
          simp only [↓DN,UP,DF,Qa,Qb,Qc,Qd,Qe,Qf,Qg,Qh,reduceCtorEq,↓reduceIte,Na,Nb,Nc,Nk,Nf,Ng,Nh,Za,Zb,Zc,TT, g3, g0]
          refine acallk hrd ?_
          rintro r s5 ⟨rfl, rfl⟩
          simp only [↓AXq_nil,↓AXq_cons,pval,DX,Nat.reduceBEq,↓DN,UP,DF,Qa,Qb,Qc,Qd,Qe,Qf,Qg,Qh,reduceCtorEq,↓reduceIte,Na,Nb,Nc,Nk,Nf,Ng,Nh,Za,Zb,Zc,TT, g3, g0, zrow_quin, nilS]
          intro t' ht'
          refine hK _ _ ?_
          simp only [blockQ, thenQ, if_true, if_false]
          subst hi0
          rw [hL0] at hend
          have hn0 : (s.drop p).own t' = none := own_none_le (hle2 (eyeC S)) ht'
          exact hend _ _ (.sl 5 1 [.v (.int .i64 nk), .sl 1 nm.length (nm.map byteV) .any, .v (.int .u64 ny), .sl 1 npa.length (npa.map byteV) .any, .sl 1 nu.length (nu.map intC) .any] (.own t' 0)) (by simp only [upd, g14, Nc, ↓reduceIte]) (by simp only [upd, g13, Nc, ↓reduceIte]) (by simp only [upd, Nc, ↓reduceIte]) (by simp only [upd, g0, Nc, ↓reduceIte]) (AS.set_objs_same _ _ _) (AS.le_gain (hle2 _) hn0 0) (.inr ⟨t', 0, rfl, by simp [AS.gain], hn0⟩)
        · refine wE fun K hK => ?_
          simp only [↓DN,UP,DF,Qa,Qb,Qc,Qd,Qe,Qf,Qg,Qh,reduceCtorEq,↓reduceIte,Na,Nb,Nc,Nk,Nf,Ng,Nh,Za,Zb,Zc,TT, g3, g0]
          refine acallk hrd ?_
          rintro r s5 ⟨rfl, rfl⟩
          simp only [↓AXq_nil,↓AXq_cons,pval,DX,Nat.reduceBEq,↓DN,UP,DF,Qa,Qb,Qc,Qd,Qe,Qf,Qg,Qh,reduceCtorEq,↓reduceIte,Na,Nb,Nc,Nk,Nf,Ng,Nh,Za,Zb,Zc,TT, g3, g0, zrow_quin, ht']
          refine ⟨by omega, by omega, hK _ _ ?_⟩
          simp only [blockQ, thenQ, if_true, if_false]
          exact hend _ _ (.sl 5 (i + 1) (L ++ [.v (.int .i64 nk), .sl 1 nm.length (nm.map byteV) .any, .v (.int .u64 ny), .sl 1 npa.length (npa.map byteV) .any, .sl 1 nu.length (nu.map intC) .any]) (.own t' (e + 1))) (by simp only [upd, g14, Nc, ↓reduceIte]) (by simp only [upd, g13, Nc, ↓reduceIte]) (by simp only [upd, Nc, ↓reduceIte]) (by simp only [upd, g0, Nc, ↓reduceIte]) (AS.set_objs_same _ _ _) (AS.le_gain (hle2 _) ht0 (e + 1)) (.inr ⟨t', e + 1, rfl, by simp [AS.gain], ht0⟩)
      · obtain rfl : i = n := by omega
        have hW := eyeNodes_W i (by omega) q1.2
        refine wS fun K hK => ?_
        simp only [↓DN,UP,DF,Qa,Qb,Qc,Qd,Qe,Qf,Qg,Qh,reduceCtorEq,↓reduceIte,Na,Nb,Nc,Nk,Nf,Ng,Nh,Za,Zb,Zc,TT, g14, g13, eye_lt_nat, decide_eq_false hi']
        refine hK _ _ ?_;clear hK K
        refine wK fun K2 hK2 => ?_
        refine wC fun X Y hX hY => ?_
        simp only [↓DN,UP,DF,Qa,Qb,Qc,Qd,Qe,Qf,Qg,Qh,reduceCtorEq,↓reduceIte,Na,Nb,Nc,Nk,Nf,Ng,Nh,Za,Zb,Zc,TT, DB]
        refine hY ?_;clear hX hY X Y
        refine awp_exit ?_
        simp only [thenQ, blockQ, if_true]
        refine hK _ _ ?_;clear hK hK2 K2 K
        generalize eyeNodes i q1.2 = Q at *
        have hLne : Q.1 ≠ [] := by intro e; rw [e] at hLl; simp at hLl; omega
        have hxw := hx.weak
        have hxn := hxw
        rw [← hLl] at hxn
        have hrg := fun s => ACalls.weaks (.cons hxn .nil) (right20_calls (Γ := Γ) hG Q.1 hW s)
        by_cases h1 : rightT Q.1
        · have hte : treeEnd Q = (if Q.2.2 = 0 then Q.1 else [], Q.2) := by simp only [treeEnd, if_pos h1]
          rw [hte]
          rw [decide_eq_true h1] at hrg
          refine wK fun K hK => ?_
          refine wS fun K hK => ?_
          simp only [↓DN,UP,DF,Qa,Qb,Qc,Qd,Qe,Qf,Qg,Qh,reduceCtorEq,↓reduceIte,Na,Nb,Nc,Nk,Nf,Ng,Nh,Za,Zb,Zc,TT, g3]
          refine acallk (hrg _) ?_
          rintro r s5 ⟨rfl, rfl⟩
          simp only [↓AXq_nil,↓AXq_cons,pval,DX,Nat.reduceBEq,↓DN,UP,DF,Qa,Qb,Qc,Qd,Qe,Qf,Qg,Qh,reduceCtorEq,↓reduceIte,Na,Nb,Nc,Nk,Nf,Ng,Nh,Za,Zb,Zc,TT]
          refine hK _ _ ?_;clear hK K
          refine wC fun X Y hX hY => ?_
          simp only [↓DN,UP,DF,Qa,Qb,Qc,Qd,Qe,Qf,Qg,Qh,reduceCtorEq,↓reduceIte,Na,Nb,Nc,Nk,Nf,Ng,Nh,Za,Zb,Zc,TT, DB]
          refine hY ?_;clear hX hY X Y
          refine awp_skip ?_
          refine hK _ _ ?_;clear hK K
          refine wK fun K hK => ?_
          refine wS fun K hK => ?_
          simp only [↓DN,UP,DF,Qa,Qb,Qc,Qd,Qe,Qf,Qg,Qh,reduceCtorEq,↓reduceIte,Na,Nb,Nc,Nk,Nf,Ng,Nh,Za,Zb,Zc,TT, g0]
          refine acallk (eyeErr_at _ p _ hob) ?_
          rintro r s6 ⟨rfl, rfl⟩
          by_cases he : Q.2.2 = 0
          · simp only [↓AXq_nil,↓AXq_cons,pval,DX,Nat.reduceBEq,↓DN,UP,DF,Qa,Qb,Qc,Qd,Qe,Qf,Qg,Qh,reduceCtorEq,↓reduceIte,Na,Nb,Nc,Nk,Nf,Ng,Nh,Za,Zb,Zc,TT, eqI he]
            refine hK _ _ ?_;clear hK K
            refine wC fun X Y hX hY => ?_
            simp only [↓DN,UP,DF,Qa,Qb,Qc,Qd,Qe,Qf,Qg,Qh,reduceCtorEq,↓reduceIte,Na,Nb,Nc,Nk,Nf,Ng,Nh,Za,Zb,Zc,TT, DB]
            refine hY ?_;clear hX hY X Y
            refine awp_skip ?_
            refine hK _ _ ?_;clear hK K
            refine wS fun K hK => ?_
            simp only [↓DN,UP,DF,Qa,Qb,Qc,Qd,Qe,Qf,Qg,Qh,reduceCtorEq,↓reduceIte,Na,Nb,Nc,Nk,Nf,Ng,Nh,Za,Zb,Zc,TT, g3]
            refine hK _ _ ?_;clear hK K
            refine awp_ret ?_
            try simp only [thenQ, blockQ]
            simp only [retQ, AEnds, aresL, ares, List.toList_toArray, ↓upd_same]; try simp only [UP,DF,Nc,↓reduceIte,DT]
            simp only [if_pos he]
            exact ⟨_, _, treeN_weak hxn hLne, AS.set_le_of hle hob, rfl, rfl⟩
          · simp only [↓AXq_nil,↓AXq_cons,pval,DX,Nat.reduceBEq,↓DN,UP,DF,Qa,Qb,Qc,Qd,Qe,Qf,Qg,Qh,reduceCtorEq,↓reduceIte,Na,Nb,Nc,Nk,Nf,Ng,Nh,Za,Zb,Zc,TT, neI he]
            refine hK _ _ ?_;clear hK K
            refine wC fun X Y hX hY => ?_
            simp only [↓DN,UP,DF,Qa,Qb,Qc,Qd,Qe,Qf,Qg,Qh,reduceCtorEq,↓reduceIte,Na,Nb,Nc,Nk,Nf,Ng,Nh,Za,Zb,Zc,TT, DB]
            refine hX ?_;clear hX hY X Y
            refine wS fun K hK => ?_
            simp only [↓DN,UP,DF,Qa,Qb,Qc,Qd,Qe,Qf,Qg,Qh,reduceCtorEq,↓reduceIte,Na,Nb,Nc,Nk,Nf,Ng,Nh,Za,Zb,Zc,TT]
            refine hK _ _ ?_;clear hK K
            refine awp_ret ?_
            try simp only [thenQ, blockQ]
            simp only [retQ, AEnds, aresL, ares, List.toList_toArray, ↓upd_same]; try simp only [UP,DF,Nc,↓reduceIte,DT]
            simp only [if_neg he]
            exact ⟨_, _, AV.weak.refl _, AS.set_le_of hle hob, rfl, rfl⟩
        · have hte : treeEnd Q = ([], failE 40 Q.2) := by
            simp only [treeEnd, if_neg h1]
            rw [if_neg]
            simp only [failE]
            split
            · decide
            · assumption
          rw [hte]
          rw [decide_eq_false h1] at hrg
          have hne : (failE 40 Q.2).2 ≠ 0 := by
            simp only [failE]
            split
            · decide
            · assumption
          refine wK fun K hK => ?_
          refine wS fun K hK => ?_
          simp only [↓DN,UP,DF,Qa,Qb,Qc,Qd,Qe,Qf,Qg,Qh,reduceCtorEq,↓reduceIte,Na,Nb,Nc,Nk,Nf,Ng,Nh,Za,Zb,Zc,TT, g3]
          refine acallk (hrg _) ?_
          rintro r s5 ⟨rfl, rfl⟩
          simp only [↓AXq_nil,↓AXq_cons,pval,DX,Nat.reduceBEq,↓DN,UP,DF,Qa,Qb,Qc,Qd,Qe,Qf,Qg,Qh,reduceCtorEq,↓reduceIte,Na,Nb,Nc,Nk,Nf,Ng,Nh,Za,Zb,Zc,TT]
          refine hK _ _ ?_;clear hK K
          refine wC fun X Y hX hY => ?_
          simp only [↓DN,UP,DF,Qa,Qb,Qc,Qd,Qe,Qf,Qg,Qh,reduceCtorEq,↓reduceIte,Na,Nb,Nc,Nk,Nf,Ng,Nh,Za,Zb,Zc,TT, DB]
          refine hX ?_;clear hX hY X Y
          refine wE fun K hK => ?_
          simp only [↓DN,UP,DF,Qa,Qb,Qc,Qd,Qe,Qf,Qg,Qh,reduceCtorEq,↓reduceIte,Na,Nb,Nc,Nk,Nf,Ng,Nh,Za,Zb,Zc,TT, g0]
          refine acallk (eyeFail_set _ p _ 40 hob) ?_
          rintro r s6 ⟨rfl, rfl⟩
          rw [show (Q.2.1, if Q.2.2 = 0 then (40 : Int) else Q.2.2) = failE 40 Q.2 from rfl]
          simp only [↓AXq_nil,↓AXq_cons,pval,DX,Nat.reduceBEq,↓DN,UP,DF,Qa,Qb,Qc,Qd,Qe,Qf,Qg,Qh,reduceCtorEq,↓reduceIte,Na,Nb,Nc,Nk,Nf,Ng,Nh,Za,Zb,Zc,TT]
          refine hK _ _ ?_;clear hK K
          simp only [blockQ, thenQ, if_true, if_false]
          refine hK _ _ ?_;clear hK K
          refine wK fun K hK => ?_
          refine wS fun K hK => ?_
          simp only [↓DN,UP,DF,Qa,Qb,Qc,Qd,Qe,Qf,Qg,Qh,reduceCtorEq,↓reduceIte,Na,Nb,Nc,Nk,Nf,Ng,Nh,Za,Zb,Zc,TT, g0]
          refine acallk (eyeErr_at _ p _ (AS.set_objs_same _ _ _)) ?_
          rintro r s6 ⟨rfl, rfl⟩
          simp only [↓AXq_nil,↓AXq_cons,pval,DX,Nat.reduceBEq,↓DN,UP,DF,Qa,Qb,Qc,Qd,Qe,Qf,Qg,Qh,reduceCtorEq,↓reduceIte,Na,Nb,Nc,Nk,Nf,Ng,Nh,Za,Zb,Zc,TT, neI hne]
          refine hK _ _ ?_;clear hK K
          refine wC fun X Y hX hY => ?_
          simp only [↓DN,UP,DF,Qa,Qb,Qc,Qd,Qe,Qf,Qg,Qh,reduceCtorEq,↓reduceIte,Na,Nb,Nc,Nk,Nf,Ng,Nh,Za,Zb,Zc,TT, DB]
          refine hX ?_;clear hX hY X Y
          refine wS fun K hK => ?_
          simp only [↓DN,UP,DF,Qa,Qb,Qc,Qd,Qe,Qf,Qg,Qh,reduceCtorEq,↓reduceIte,Na,Nb,Nc,Nk,Nf,Ng,Nh,Za,Zb,Zc,TT]
          refine hK _ _ ?_;clear hK K
          refine awp_ret ?_
          try simp only [thenQ, blockQ]
          simp only [retQ, AEnds, aresL, ares, List.toList_toArray, ↓upd_same]; try simp only [UP,DF,Nc,↓reduceIte,DT]
          exact ⟨_, _, AV.weak.refl _, AS.set_le_of (AS.le_set hle (AS.drop_self s p) _) (AS.set_objs_same _ _ _), rfl, rfl⟩
  · have htr : treeRead st = ([], failE 40 q1.2) := by simp only [treeRead, ← e1, if_neg hf]
    rw [htr]
    rw [decide_eq_false (fun q => hf (fitI_nat.1 q))] at hfi
    have hwi : widI (q1.1 : Int) = 0 := by
      unfold widI
      rw [if_neg (fun q => hf (fitI_nat.1 q))]
    rw [hwi] at hwd
    have hne : (failE 40 q1.2).2 ≠ 0 := by
      simp only [failE]
      split
      · decide
      · assumption
    have hrg := fun s => ACalls.weaks (args := [.v (.slice none 0 0)]) (.cons (AV.weak_nil (sz := 5)) .nil) (right20_calls (Γ := Γ) hG [] ⟨by simp, fun n hn => by cases hn⟩ s)
    rw [decide_eq_false (fun q => by have := q.1; revert this; decide)] at hrg
    have hff : failE 40 (failE 40 q1.2) = failE 40 q1.2 := by
      simp only [failE]
      split
      · rfl
      · rename_i hq; simp only [if_neg hq]
    refine wS fun K hK => ?_
    simp only [↓DN,UP,DF,Qa,Qb,Qc,Qd,Qe,Qf,Qg,Qh,reduceCtorEq,↓reduceIte,Na,Nb,Nc,Nk,Nf,Ng,Nh,Za,Zb,Zc,TT]
    refine hK _ _ ?_;clear hK K
    refine wS fun K hK => ?_
    simp only [↓DN,UP,DF,Qa,Qb,Qc,Qd,Qe,Qf,Qg,Qh,reduceCtorEq,↓reduceIte,Na,Nb,Nc,Nk,Nf,Ng,Nh,Za,Zb,Zc,TT]
    refine hK _ _ ?_;clear hK K
    refine wS fun K hK => ?_
    simp only [↓DN,UP,DF,Qa,Qb,Qc,Qd,Qe,Qf,Qg,Qh,reduceCtorEq,↓reduceIte,Na,Nb,Nc,Nk,Nf,Ng,Nh,Za,Zb,Zc,TT]
    refine acallk hu8 ?_
    rintro r s1 ⟨rfl, rfl⟩
    simp only [↓AXq_nil,↓AXq_cons,pval,DX,Nat.reduceBEq,↓DN,UP,DF,Qa,Qb,Qc,Qd,Qe,Qf,Qg,Qh,reduceCtorEq,↓reduceIte,Na,Nb,Nc,Nk,Nf,Ng,Nh,Za,Zb,Zc,TT]
    refine hK _ _ ?_;clear hK K
    refine wK fun K hK => ?_
    refine wS fun K hK => ?_
    simp only [↓DN,UP,DF,Qa,Qb,Qc,Qd,Qe,Qf,Qg,Qh,reduceCtorEq,↓reduceIte,Na,Nb,Nc,Nk,Nf,Ng,Nh,Za,Zb,Zc,TT]
    refine acallk (hfi _) ?_
    rintro r s2 ⟨rfl, rfl⟩
    simp only [↓AXq_nil,↓AXq_cons,pval,DX,Nat.reduceBEq,↓DN,UP,DF,Qa,Qb,Qc,Qd,Qe,Qf,Qg,Qh,reduceCtorEq,↓reduceIte,Na,Nb,Nc,Nk,Nf,Ng,Nh,Za,Zb,Zc,TT]
    refine hK _ _ ?_;clear hK K
    refine wC fun X Y hX hY => ?_
    simp only [↓DN,UP,DF,Qa,Qb,Qc,Qd,Qe,Qf,Qg,Qh,reduceCtorEq,↓reduceIte,Na,Nb,Nc,Nk,Nf,Ng,Nh,Za,Zb,Zc,TT, DB]
    refine hX ?_;clear hX hY X Y
    refine wE fun K hK => ?_
    simp only [↓DN,UP,DF,Qa,Qb,Qc,Qd,Qe,Qf,Qg,Qh,reduceCtorEq,↓reduceIte,Na,Nb,Nc,Nk,Nf,Ng,Nh,Za,Zb,Zc,TT]
    refine acallk (eyeFail_set _ p _ 40 (AS.set_objs_same _ _ _)) ?_
    rintro r s6 ⟨rfl, rfl⟩
    rw [show (q1.2.1, if q1.2.2 = 0 then (40 : Int) else q1.2.2) = failE 40 q1.2 from rfl]
    simp only [↓AXq_nil,↓AXq_cons,pval,DX,Nat.reduceBEq,↓DN,UP,DF,Qa,Qb,Qc,Qd,Qe,Qf,Qg,Qh,reduceCtorEq,↓reduceIte,Na,Nb,Nc,Nk,Nf,Ng,Nh,Za,Zb,Zc,TT]
    refine hK _ _ ?_;clear hK K
    simp only [blockQ, thenQ, if_true, if_false]
    refine hK _ _ ?_;clear hK K
    refine wK fun K hK => ?_
    refine wS fun K hK => ?_
    simp only [↓DN,UP,DF,Qa,Qb,Qc,Qd,Qe,Qf,Qg,Qh,reduceCtorEq,↓reduceIte,Na,Nb,Nc,Nk,Nf,Ng,Nh,Za,Zb,Zc,TT]
    refine acallk (hwd _) ?_
    rintro r s7 ⟨rfl, rfl⟩
    simp only [↓AXq_nil,↓AXq_cons,pval,DX,Nat.reduceBEq,↓DN,UP,DF,Qa,Qb,Qc,Qd,Qe,Qf,Qg,Qh,reduceCtorEq,↓reduceIte,Na,Nb,Nc,Nk,Nf,Ng,Nh,Za,Zb,Zc,TT]
    refine hK _ _ ?_;clear hK K
    refine awp_block ?_
    refine awp_loop (fun E s2 => E 14 = .v (.int .i64 0) ∧ E 13 = .v (.int .i64 0) ∧ E 3 = .v (.slice none 0 0) ∧ E 0 = .ptr p 0 ∧ s2.objs p = some (eyeC (failE 40 q1.2)) ∧ (s.drop p).le s2)
      (fun E _ => 0) ?_ ?_
    · exact ⟨by simp only [upd, Nc, ↓reduceIte], by simp only [upd, Nc, ↓reduceIte], by simp only [upd, Nc, ↓reduceIte], by simp only [upd, initE, List.getD_cons_zero, List.getD_cons_succ, Nc, ↓reduceIte], AS.set_objs_same _ _ _, hle0 _⟩
    · rintro E1 s4 ⟨g14, g13, g3, g0, hob, hle⟩ -
      refine wS fun K hK => ?_
      simp only [↓DN,UP,DF,Qa,Qb,Qc,Qd,Qe,Qf,Qg,Qh,reduceCtorEq,↓reduceIte,Na,Nb,Nc,Nk,Nf,Ng,Nh,Za,Zb,Zc,TT, g14, g13, show decide ((0 : Int) < 0) = false from rfl]
      refine hK _ _ ?_;clear hK K
      refine wK fun K2 hK2 => ?_
      refine wC fun X Y hX hY => ?_
      simp only [↓DN,UP,DF,Qa,Qb,Qc,Qd,Qe,Qf,Qg,Qh,reduceCtorEq,↓reduceIte,Na,Nb,Nc,Nk,Nf,Ng,Nh,Za,Zb,Zc,TT, DB]
      refine hY ?_;clear hX hY X Y
      refine awp_exit ?_
      simp only [thenQ, blockQ, if_true]
      refine hK _ _ ?_;clear hK hK2 K2 K
      refine wK fun K hK => ?_
      refine wS fun K hK => ?_
      simp only [↓DN,UP,DF,Qa,Qb,Qc,Qd,Qe,Qf,Qg,Qh,reduceCtorEq,↓reduceIte,Na,Nb,Nc,Nk,Nf,Ng,Nh,Za,Zb,Zc,TT, g3]
      refine acallk (hrg _) ?_
      rintro r s5 ⟨rfl, rfl⟩
      simp only [↓AXq_nil,↓AXq_cons,pval,DX,Nat.reduceBEq,↓DN,UP,DF,Qa,Qb,Qc,Qd,Qe,Qf,Qg,Qh,reduceCtorEq,↓reduceIte,Na,Nb,Nc,Nk,Nf,Ng,Nh,Za,Zb,Zc,TT]
      refine hK _ _ ?_;clear hK K
      refine wC fun X Y hX hY => ?_
      simp only [↓DN,UP,DF,Qa,Qb,Qc,Qd,Qe,Qf,Qg,Qh,reduceCtorEq,↓reduceIte,Na,Nb,Nc,Nk,Nf,Ng,Nh,Za,Zb,Zc,TT, DB]
      refine hX ?_;clear hX hY X Y
      refine wE fun K hK => ?_
      simp only [↓DN,UP,DF,Qa,Qb,Qc,Qd,Qe,Qf,Qg,Qh,reduceCtorEq,↓reduceIte,Na,Nb,Nc,Nk,Nf,Ng,Nh,Za,Zb,Zc,TT, g0]
      refine acallk (eyeFail_set _ p _ 40 hob) ?_
      rintro r s6 ⟨rfl, rfl⟩
      rw [show ((failE 40 q1.2).1, if (failE 40 q1.2).2 = 0 then (40 : Int) else (failE 40 q1.2).2) = failE 40 (failE 40 q1.2) from rfl, hff]
      simp only [↓AXq_nil,↓AXq_cons,pval,DX,Nat.reduceBEq,↓DN,UP,DF,Qa,Qb,Qc,Qd,Qe,Qf,Qg,Qh,reduceCtorEq,↓reduceIte,Na,Nb,Nc,Nk,Nf,Ng,Nh,Za,Zb,Zc,TT]
      refine hK _ _ ?_;clear hK K
      simp only [blockQ, thenQ, if_true, if_false]
      refine hK _ _ ?_;clear hK K
      refine wK fun K hK => ?_
      refine wS fun K hK => ?_
      simp only [↓DN,UP,DF,Qa,Qb,Qc,Qd,Qe,Qf,Qg,Qh,reduceCtorEq,↓reduceIte,Na,Nb,Nc,Nk,Nf,Ng,Nh,Za,Zb,Zc,TT, g0]
      refine acallk (eyeErr_at _ p _ (AS.set_objs_same _ _ _)) ?_
      rintro r s6 ⟨rfl, rfl⟩
      simp only [↓AXq_nil,↓AXq_cons,pval,DX,Nat.reduceBEq,↓DN,UP,DF,Qa,Qb,Qc,Qd,Qe,Qf,Qg,Qh,reduceCtorEq,↓reduceIte,Na,Nb,Nc,Nk,Nf,Ng,Nh,Za,Zb,Zc,TT, neI hne]
      refine hK _ _ ?_;clear hK K
      refine wC fun X Y hX hY => ?_
      simp only [↓DN,UP,DF,Qa,Qb,Qc,Qd,Qe,Qf,Qg,Qh,reduceCtorEq,↓reduceIte,Na,Nb,Nc,Nk,Nf,Ng,Nh,Za,Zb,Zc,TT, DB]
      refine hX ?_;clear hX hY X Y
      refine wS fun K hK => ?_
      simp only [↓DN,UP,DF,Qa,Qb,Qc,Qd,Qe,Qf,Qg,Qh,reduceCtorEq,↓reduceIte,Na,Nb,Nc,Nk,Nf,Ng,Nh,Za,Zb,Zc,TT]
      refine hK _ _ ?_;clear hK K
      refine awp_ret ?_
      try simp only [thenQ, blockQ]
      simp only [retQ, AEnds, aresL, ares, List.toList_toArray, ↓upd_same]; try simp only [UP,DF,Nc,↓reduceIte,DT]
      exact ⟨_, _, AV.weak.refl _, AS.set_le_of (AS.le_set hle (AS.drop_self s p) _) (AS.set_objs_same _ _ _), rfl, rfl⟩

end Go.Proofs.YtcnilmidfhpckaaGreatDoor


set_option autoImplicit false
namespace Go.Proofs.YtcnilmidfhpckaaGreatDoor
open Go Go.AM Go.Proofs


variable {Γ : Nat → List AV}

/-! ### The reference's octets of a tree -/
set_option maxRecDepth 100000 in
set_option maxHeartbeats 4000000 in
theorem refTreeWrite_calls (t : List NodeV) (ht : TreeW t) (h1 : rightT t) (s : AS) :
    ACalls Tryz.prog Γ 12 [treeV t] s (fun r s' => r = .v (.string ⟨(treeText t).toArray⟩) ∧ s' = s) := by
  have hlv := fun s => refLeaves_calls (Γ := Γ) t ht.1 s
  have hlvs := lvs_le t
  have hnu := fun s => refNumber_calls (Γ := Γ) (lvs t) 1 (by omega) (by omega) s
  have hl := h1.len
  have hat := fun (i : Nat) (hi : i < t.length) => node_at hi
  have htt := fun (i : Nat) (hi : i < t.length) => nodesText_snoc (t.take i) t[i]
  refine acalls_body Tryz.func12 rfl Tryz.ntmps12 Tryz.results12 (by simp) ?_
  have htx : treeText t = be 1 (lvs t) ++ nodesText t := rfl
  unfold treeV at *
  generalize hX : rowC NodeV.cells t = X at *
  refine wS fun K hK => ?_
  simp only [↓DN,UP,DF,Qa,Qb,Qc,Qd,Qe,Qf,Qg,Qh,reduceCtorEq,↓reduceIte,Na,Nb,Nc,Nk,Nf,Ng,Nh,Za,Zb,Zc,TT]
  refine hK _ _ ?_;clear hK K
  refine wS fun K hK => ?_
  simp only [↓DN,UP,DF,Qa,Qb,Qc,Qd,Qe,Qf,Qg,Qh,reduceCtorEq,↓reduceIte,Na,Nb,Nc,Nk,Nf,Ng,Nh,Za,Zb,Zc,TT]
  refine acallk (hlv _) ?_
  rintro r s1 ⟨rfl, rfl⟩
  simp only [↓AXq_nil,↓AXq_cons,pval,DX,Nat.reduceBEq,↓DN,UP,DF,Qa,Qb,Qc,Qd,Qe,Qf,Qg,Qh,reduceCtorEq,↓reduceIte,Na,Nb,Nc,Nk,Nf,Ng,Nh,Za,Zb,Zc,TT, u64_conv (show lvs t < 2 ^ 62 by omega)]
  refine acallk (hnu _) ?_
  rintro r s2 ⟨rfl, rfl⟩
  simp only [↓AXq_nil,↓AXq_cons,pval,DX,Nat.reduceBEq,↓DN,UP,DF,Qa,Qb,Qc,Qd,Qe,Qf,Qg,Qh,reduceCtorEq,↓reduceIte,Na,Nb,Nc,Nk,Nf,Ng,Nh,Za,Zb,Zc,TT]
  refine hK _ _ ?_;clear hK K
  refine wK fun K hK => ?_
  refine wS fun K hK => ?_
  simp only [↓DN,UP,DF,Qa,Qb,Qc,Qd,Qe,Qf,Qg,Qh,reduceCtorEq,↓reduceIte,Na,Nb,Nc,Nk,Nf,Ng,Nh,Za,Zb,Zc,TT]
  refine hK _ _ ?_;clear hK K
  refine awp_block ?_
  refine awp_loop (fun E s3 => ∃ i : Nat, i ≤ t.length ∧ E 4 = .v (.int .i64 i) ∧ E 0 = .sl 5 t.length X .any ∧ E 3 = .v (.string ⟨(be 1 (lvs t) ++ nodesText (t.take i)).toArray⟩) ∧ s3 = s2)
    (fun E _ => match E 4 with | .v (.int _ i) => t.length - i.toNat | _ => 0) ?_ ?_
  · exact ⟨0, Nat.zero_le _, by simp only [upd, Nc, ↓reduceIte]; rfl, by simp only [upd, initE, List.getD_cons_zero, List.getD_cons_succ, Nc, ↓reduceIte], by simp [upd, nodesText], rfl⟩
  · rintro E1 s4 ⟨i, hi, g4, g0, g3, rfl⟩ -
    refine wK fun K2 hK2 => ?_
    by_cases hi' : i < t.length
    · refine wS fun K hK => ?_
      simp only [↓DN,UP,DF,Qa,Qb,Qc,Qd,Qe,Qf,Qg,Qh,reduceCtorEq,↓reduceIte,Na,Nb,Nc,Nk,Nf,Ng,Nh,Za,Zb,Zc,TT, g4, g0, eye_lt_nat, decide_eq_true hi']
      refine hK _ _ ?_;clear hK K
      refine wC fun X Y hX hY => ?_
      simp only [↓DN,UP,DF,Qa,Qb,Qc,Qd,Qe,Qf,Qg,Qh,reduceCtorEq,↓reduceIte,Na,Nb,Nc,Nk,Nf,Ng,Nh,Za,Zb,Zc,TT, DB]
      refine hX ?_;clear hX hY X Y
      refine awp_skip ?_
      refine hK2 _ _ ?_;clear hK2 K2
      refine wK fun K3 hK3 => ?_
      refine awp_block ?_
      have hge : (0 : Int) ≤ (i : Int) := by omega
      have hat' := hat i hi'
      have hnr := h1.nd i
      have htt' := htt i hi'
      rw [nd_get hi'] at hnr hat'
      rw [← List.take_succ_eq_append_getElem hi'] at htt'
      generalize t[i] = N at *
      have hnw := fun s => refNodeWrite_calls (Γ := Γ) N hnr s
      have hntl := NodeV.text_len hnr
      have htl' := nodesText_len (l := t.take i) (fun n hn => h1.nodes (List.mem_of_mem_take hn))
      have htk : (t.take i).length ≤ 63 := by rw [List.length_take]; have := hl.2.le; omega
      generalize N.text = NT at *
      obtain ⟨nk, nm, ny, npa, nu⟩ := N
      unfold NodeV.cells at hat' hnw
      unfold intsV at hat' hnw
      refine wE fun K hK => ?_
      simp only [↓DN,UP,DF,Qa,Qb,Qc,Qd,Qe,Qf,Qg,Qh,reduceCtorEq,↓reduceIte,Na,Nb,Nc,Nk,Nf,Ng,Nh,Za,Zb,Zc,TT, g4, g0, g3, hge, eye_lt_nat, hi', hat']
      refine acallk (hnw _) ?_
      rintro r s5 ⟨rfl, rfl⟩
      simp only [↓AXq_nil,↓AXq_cons,pval,DX,Nat.reduceBEq,↓DN,UP,DF,Qa,Qb,Qc,Qd,Qe,Qf,Qg,Qh,reduceCtorEq,↓reduceIte,Na,Nb,Nc,Nk,Nf,Ng,Nh,Za,Zb,Zc,TT, g3, length_be, i64_room (show 1 + (nodesText (t.take i)).length + NT.length < 2 ^ 62 by omega)]
      refine hK _ _ ?_;clear hK K
      simp only [blockQ, thenQ, if_true, if_false]
      refine hK3 _ _ ?_;clear hK3 K3
      refine wE fun K hK => ?_
      simp only [↓DN,UP,DF,Qa,Qb,Qc,Qd,Qe,Qf,Qg,Qh,reduceCtorEq,↓reduceIte,Na,Nb,Nc,Nk,Nf,Ng,Nh,Za,Zb,Zc,TT, g4, eye_succM i (by omega)]
      refine hK _ _ ?_;clear hK K
      refine ⟨⟨i + 1, by omega, by simp only [upd, Nc, ↓reduceIte], by simp only [upd, g0, Nc, ↓reduceIte], ?_, rfl⟩, ?_⟩
      · rw [htt', ← List.append_assoc]
        simp only [upd, Nc, ↓reduceIte]
        try simp
      · simp only [g4, upd, ↓reduceIte]
        omega
    · refine wS fun K hK => ?_
      simp only [↓DN,UP,DF,Qa,Qb,Qc,Qd,Qe,Qf,Qg,Qh,reduceCtorEq,↓reduceIte,Na,Nb,Nc,Nk,Nf,Ng,Nh,Za,Zb,Zc,TT, g4, g0, eye_lt_nat, decide_eq_false hi']
      refine hK _ _ ?_;clear hK K
      refine wC fun X Y hX hY => ?_
      simp only [↓DN,UP,DF,Qa,Qb,Qc,Qd,Qe,Qf,Qg,Qh,reduceCtorEq,↓reduceIte,Na,Nb,Nc,Nk,Nf,Ng,Nh,Za,Zb,Zc,TT, DB]
      refine hY ?_;clear hX hY X Y
      refine awp_exit ?_
      simp only [thenQ, blockQ, if_true]
      refine hK _ _ ?_;clear hK hK2 K2 K
      obtain rfl : i = t.length := by omega
      rw [List.take_length] at g3
      refine wS fun K hK => ?_
      simp only [↓DN,UP,DF,Qa,Qb,Qc,Qd,Qe,Qf,Qg,Qh,reduceCtorEq,↓reduceIte,Na,Nb,Nc,Nk,Nf,Ng,Nh,Za,Zb,Zc,TT, g3]
      refine hK _ _ ?_;clear hK K
      refine awp_ret ?_
      try simp only [thenQ, blockQ]
      simp only [retQ, AEnds, aresL, ares, List.toList_toArray, ↓upd_same]; try simp only [UP,DF,Nc,↓reduceIte,DT]
      rw [htx]
      exact ⟨_, _, AV.weak.refl _, AS.le.refl _, rfl, rfl⟩

end Go.Proofs.YtcnilmidfhpckaaGreatDoor


set_option autoImplicit false
namespace Go.Proofs.YtcnilmidfhpckaaGreatDoor
open Go Go.AM Go.Proofs


variable {Γ : Nat → List AV}

theorem fit_noerr {st : EyeSt} (h : Fit (eyeNum 1 st).1) : (eyeNum 1 st).2.2 = 0 := by
  obtain ⟨l, e⟩ := st
  by_cases he : e = 0
  · subst he
    by_cases hl : l.length < 1
    · rw [eyeNum_short hl] at h
      exact absurd (show Fit 0 from h) (by decide)
    · rw [eyeNum_ok (by omega)]
  · rw [eyeNum_err he] at h
    exact absurd (show Fit 0 from h) (by decide)
theorem failE_ne {st : EyeSt} (h : st.2 ≠ 0) : failE 40 st = st := by simp only [failE, if_neg h]
theorem failE_0 {st : EyeSt} (h : st.2 = 0) : failE 40 st = (st.1, 40) := by simp only [failE, if_pos h]

/-! ### The reference reads a tree -/
set_option maxRecDepth 100000 in
set_option maxHeartbeats 4000000 in
theorem refTreeRead_calls (s : AS) (p : Nat) (st : EyeSt) (hl : st.1.length ≤ 2 ^ 44) (h : s.objs p = some (reyeC st)) :
    ACalls Tryz.prog Γ 17 [.ptr p 0] s (fun r s' => r = treeN (treeRead st).1 ∧ s' = s.set p (reyeC (treeRead st).2)) := by
  refine acalls_body Tryz.func17 rfl Tryz.ntmps17 Tryz.results17 (by simp) ?_
  obtain ⟨q1, e1⟩ : ∃ q, q = eyeNum 1 st := ⟨_, rfl⟩
  have l1 : q1.2.1.length ≤ 2 ^ 44 := by rw [e1]; exact Nat.le_trans (eyeNum_len _ _) hl
  have k1 : q1.1 < 256 := by rw [e1]; exact eyeN1_lt _
  have hu8 := reyeNumber_set (Γ := Γ) s p st 1 (by omega) (by omega) h
  rw [← e1] at hu8
  have hfi := fun s => refFits18_calls (Γ := Γ) (q1.1 : Int) s
  have hle0 : ∀ c, (s.drop p).le (s.set p c) := fun c => AS.le_set (AS.drop_le s p) (AS.drop_self s p) c
  by_cases hf : Fit q1.1
  · have htr : treeRead st = treeEnd (eyeNodes (2 * q1.1 - 1) q1.2) := by simp only [treeRead, ← e1, if_pos hf]
    rw [htr]
    have hz : q1.2.2 = 0 := by rw [e1] at hf ⊢; exact fit_noerr hf
    rw [decide_eq_true (fitI_nat.2 hf)] at hfi
    have hfl := hf.le
    have em := imul2_nat q1.1 (by omega)
    have es : isub .i64 ((2 * q1.1 : Nat) : Int) 1 = ((2 * q1.1 - 1 : Nat) : Int) := by rw [isub_i64 (by omega)]; omega
    generalize hn : 2 * q1.1 - 1 = n at *
    refine wS fun K hK => ?_
    simp only [↓DN,UP,DF,Qa,Qb,Qc,Qd,Qe,Qf,Qg,Qh,reduceCtorEq,↓reduceIte,Na,Nb,Nc,Nk,Nf,Ng,Nh,Za,Zb,Zc,TT]
    refine hK _ _ ?_;clear hK K
    refine wS fun K hK => ?_
    simp only [↓DN,UP,DF,Qa,Qb,Qc,Qd,Qe,Qf,Qg,Qh,reduceCtorEq,↓reduceIte,Na,Nb,Nc,Nk,Nf,Ng,Nh,Za,Zb,Zc,TT]
    refine acallk hu8 ?_
    rintro r s1 ⟨rfl, rfl⟩
    simp only [↓AXq_nil,↓AXq_cons,pval,DX,Nat.reduceBEq,↓DN,UP,DF,Qa,Qb,Qc,Qd,Qe,Qf,Qg,Qh,reduceCtorEq,↓reduceIte,Na,Nb,Nc,Nk,Nf,Ng,Nh,Za,Zb,Zc,TT, i64_conv (show q1.1 < 2 ^ 62 by omega)]
    refine hK _ _ ?_;clear hK K
    have je : (s.set p (reyeC q1.2)).objs p = some [.v (.string ⟨q1.2.1.toArray⟩), .v (.int .i64 q1.2.2)] := AS.set_objs_same _ _ _
    have hob0 : (s.set p (reyeC q1.2)).objs p = some (reyeC q1.2) := AS.set_objs_same _ _ _
    have hle := hle0 (reyeC q1.2)
    generalize s.set p (reyeC q1.2) = s2 at *
    rw [hz] at je
    refine wK fun K hK => ?_
    refine wS fun K hK => ?_
    simp only [↓DN,UP,DF,Qa,Qb,Qc,Qd,Qe,Qf,Qg,Qh,reduceCtorEq,↓reduceIte,Na,Nb,Nc,Nk,Nf,Ng,Nh,Za,Zb,Zc,TT, je, show ((0 : Int) == 0) = true from rfl]
    refine acallk (hfi _) ?_
    rintro r s3 ⟨rfl, rfl⟩
    simp only [↓AXq_nil,↓AXq_cons,pval,DX,Nat.reduceBEq,↓DN,UP,DF,Qa,Qb,Qc,Qd,Qe,Qf,Qg,Qh,reduceCtorEq,↓reduceIte,Na,Nb,Nc,Nk,Nf,Ng,Nh,Za,Zb,Zc,TT]
    refine hK _ _ ?_;clear hK K
    refine wC fun X Y hX hY => ?_
    simp only [↓DN,UP,DF,Qa,Qb,Qc,Qd,Qe,Qf,Qg,Qh,reduceCtorEq,↓reduceIte,Na,Nb,Nc,Nk,Nf,Ng,Nh,Za,Zb,Zc,TT, DB]
    refine hY ?_;clear hX hY X Y
    refine awp_skip ?_
    refine hK _ _ ?_;clear hK K
    refine wK fun K hK => ?_
    refine wS fun K hK => ?_
    simp only [↓DN,UP,DF,Qa,Qb,Qc,Qd,Qe,Qf,Qg,Qh,reduceCtorEq,↓reduceIte,Na,Nb,Nc,Nk,Nf,Ng,Nh,Za,Zb,Zc,TT, je, i64_ne_false 0 rfl]
    refine hK _ _ ?_;clear hK K
    refine wC fun X Y hX hY => ?_
    simp only [↓DN,UP,DF,Qa,Qb,Qc,Qd,Qe,Qf,Qg,Qh,reduceCtorEq,↓reduceIte,Na,Nb,Nc,Nk,Nf,Ng,Nh,Za,Zb,Zc,TT, DB]
    refine hY ?_;clear hX hY X Y
    refine awp_skip ?_
    refine hK _ _ ?_;clear hK K
    refine wS fun K hK => ?_
    simp only [↓DN,UP,DF,Qa,Qb,Qc,Qd,Qe,Qf,Qg,Qh,reduceCtorEq,↓reduceIte,Na,Nb,Nc,Nk,Nf,Ng,Nh,Za,Zb,Zc,TT]
    refine hK _ _ ?_;clear hK K
    refine wK fun K hK => ?_
    refine wS fun K hK => ?_
    simp only [↓DN,UP,DF,Qa,Qb,Qc,Qd,Qe,Qf,Qg,Qh,reduceCtorEq,↓reduceIte,Na,Nb,Nc,Nk,Nf,Ng,Nh,Za,Zb,Zc,TT]
    refine hK _ _ ?_;clear hK K
    refine awp_block ?_
    clear je
    refine awp_loop (fun E s2 => ∃ (i : Nat) (x : AV), i ≤ n ∧ E 5 = .v (.int .i64 i) ∧ E 3 = .v (.int .i64 q1.1) ∧ E 4 = x ∧ E 0 = .ptr p 0 ∧ s2.objs p = some (reyeC (eyeNodes i q1.2).2) ∧ (s.drop p).le s2 ∧ RBuf 5 (s.drop p) s2 x i (rowC NodeV.cells (eyeNodes i q1.2).1))
      (fun E _ => match E 5 with | .v (.int _ i) => n - i.toNat | _ => 0) ?_ ?_
    · exact ⟨0, _, Nat.zero_le _, by simp only [upd, Nc, ↓reduceIte]; rfl, by simp only [upd, Nc, ↓reduceIte], by simp only [upd, Nc, ↓reduceIte]; rfl, by simp only [upd, initE, List.getD_cons_zero, List.getD_cons_succ, Nc, ↓reduceIte], hob0, hle, RBuf.nil _ _ _⟩
    · clear hob0 hle
      rintro E1 s4 ⟨i, x, hi, g5, g3, g4, g0, hob, hle, hx⟩ -
      have hSl : (eyeNodes i q1.2).2.1.length ≤ 2 ^ 44 := Nat.le_trans (eyeNodes_left _ _) l1
      have hLl := eyeNodes_len i q1.2
      refine wK fun K2 hK2 => ?_
      by_cases hi' : i < n
      · refine wS fun K hK => ?_
        simp only [↓DN,UP,DF,Qa,Qb,Qc,Qd,Qe,Qf,Qg,Qh,reduceCtorEq,↓reduceIte,Na,Nb,Nc,Nk,Nf,Ng,Nh,Za,Zb,Zc,TT, g5, g3, em, es, eye_lt_nat, decide_eq_true hi']
        refine hK _ _ ?_;clear hK K
        refine wC fun X Y hX hY => ?_
        simp only [↓DN,UP,DF,Qa,Qb,Qc,Qd,Qe,Qf,Qg,Qh,reduceCtorEq,↓reduceIte,Na,Nb,Nc,Nk,Nf,Ng,Nh,Za,Zb,Zc,TT, DB]
        refine hX ?_;clear hX hY X Y
        refine awp_skip ?_
        refine hK2 _ _ ?_;clear hK2 K2
        refine wK fun K3 hK3 => ?_
        refine awp_block ?_
        have hsu : eyeNodes (i + 1) q1.2 = ((eyeNodes i q1.2).1 ++ [(nodeRead (eyeNodes i q1.2).2).1], (nodeRead (eyeNodes i q1.2).2).2) := rfl
        have hend : ∀ (E : Env) (s5 : AS) (x2 : AV), E 5 = .v (.int .i64 i) → E 3 = .v (.int .i64 q1.1) → E 4 = x2 → E 0 = .ptr p 0 → s5.objs p = some (reyeC (eyeNodes (i + 1) q1.2).2) → (s.drop p).le s5 → RBuf 5 (s.drop p) s5 x2 (i + 1) (rowC NodeV.cells (eyeNodes (i + 1) q1.2).1) → K3 E s5 := by
          intro E s5 x2 f5 f3 f4 f0 fo fle fx
          refine hK3 _ _ ?_;clear hK3 K3
          refine wE fun K hK => ?_
          simp only [↓DN,UP,DF,Qa,Qb,Qc,Qd,Qe,Qf,Qg,Qh,reduceCtorEq,↓reduceIte,Na,Nb,Nc,Nk,Nf,Ng,Nh,Za,Zb,Zc,TT, f5, eye_succM i (by omega)]
          refine hK _ _ ?_;clear hK K
          refine ⟨⟨i + 1, x2, by omega, by simp only [upd, Nc, ↓reduceIte], by simp only [upd, f3, Nc, ↓reduceIte], by simp only [upd, f4, Nc, ↓reduceIte], by simp only [upd, f0, Nc, ↓reduceIte], fo, fle, fx⟩, ?_⟩
          simp only [g5, upd, ↓reduceIte]
          omega
        clear hK3
        rw [hsu] at hend
        simp only [row_snoc] at hend
        generalize eyeNodes i q1.2 = Q at *
        have hrd := refNodeRead_calls (Γ := Γ) s4 p Q.2 hSl hob
        generalize nodeRead Q.2 = R at *
        obtain ⟨⟨nk, nm, ny, npa, nu⟩, S⟩ := R
        simp only at hend hrd
        generalize rowC NodeV.cells Q.1 = L at *
        unfold NodeV.cells at hend hrd
        unfold bytesV intsV at hend hrd
        have hle2 : ∀ c, (s.drop p).le (s4.set p c) := fun c => AS.le_set hle (AS.drop_self s p) c
        rcases hx with ⟨rfl, hi0, hL0⟩ | ⟨t', e, rfl, ht', ht0⟩
        · refine wE fun K hK => ?_
          simp only [↓DN,UP,DF,Qa,Qb,Qc,Qd,Qe,Qf,Qg,Qh,reduceCtorEq,↓reduceIte,Na,Nb,Nc,Nk,Nf,Ng,Nh,Za,Zb,Zc,TT, g4, g0]
          refine acallk hrd ?_
          rintro r s5 ⟨rfl, rfl⟩
          simp only [↓AXq_nil,↓AXq_cons,pval,DX,Nat.reduceBEq,↓DN,UP,DF,Qa,Qb,Qc,Qd,Qe,Qf,Qg,Qh,reduceCtorEq,↓reduceIte,Na,Nb,Nc,Nk,Nf,Ng,Nh,Za,Zb,Zc,TT, g4, g0, zrow_quin, nilS]
          intro t' ht'
          refine hK _ _ ?_
          simp only [blockQ, thenQ, if_true, if_false]
          subst hi0
          rw [hL0] at hend
          have hn0 : (s.drop p).own t' = none := own_none_le (hle2 (reyeC S)) ht'
          exact hend _ _ (.sl 5 1 [.v (.int .i64 nk), .sl 1 nm.length (nm.map byteV) .any, .v (.int .u64 ny), .sl 1 npa.length (npa.map byteV) .any, .sl 1 nu.length (nu.map intC) .any] (.own t' 0)) (by simp only [upd, g5, Nc, ↓reduceIte]) (by simp only [upd, g3, Nc, ↓reduceIte]) (by simp only [upd, Nc, ↓reduceIte]) (by simp only [upd, g0, Nc, ↓reduceIte]) (AS.set_objs_same _ _ _) (AS.le_gain (hle2 _) hn0 0) (.inr ⟨t', 0, rfl, by simp [AS.gain], hn0⟩)
        · refine wE fun K hK => ?_
          simp only [↓DN,UP,DF,Qa,Qb,Qc,Qd,Qe,Qf,Qg,Qh,reduceCtorEq,↓reduceIte,Na,Nb,Nc,Nk,Nf,Ng,Nh,Za,Zb,Zc,TT, g4, g0]
          refine acallk hrd ?_
          rintro r s5 ⟨rfl, rfl⟩
          simp only [↓AXq_nil,↓AXq_cons,pval,DX,Nat.reduceBEq,↓DN,UP,DF,Qa,Qb,Qc,Qd,Qe,Qf,Qg,Qh,reduceCtorEq,↓reduceIte,Na,Nb,Nc,Nk,Nf,Ng,Nh,Za,Zb,Zc,TT, g4, g0, zrow_quin, ht']
          refine ⟨by omega, by omega, hK _ _ ?_⟩
          simp only [blockQ, thenQ, if_true, if_false]
          exact hend _ _ (.sl 5 (i + 1) (L ++ [.v (.int .i64 nk), .sl 1 nm.length (nm.map byteV) .any, .v (.int .u64 ny), .sl 1 npa.length (npa.map byteV) .any, .sl 1 nu.length (nu.map intC) .any]) (.own t' (e + 1))) (by simp only [upd, g5, Nc, ↓reduceIte]) (by simp only [upd, g3, Nc, ↓reduceIte]) (by simp only [upd, Nc, ↓reduceIte]) (by simp only [upd, g0, Nc, ↓reduceIte]) (AS.set_objs_same _ _ _) (AS.le_gain (hle2 _) ht0 (e + 1)) (.inr ⟨t', e + 1, rfl, by simp [AS.gain], ht0⟩)
      · obtain rfl : i = n := by omega
        have hW := eyeNodes_W i (by omega) q1.2
        refine wS fun K hK => ?_
        simp only [↓DN,UP,DF,Qa,Qb,Qc,Qd,Qe,Qf,Qg,Qh,reduceCtorEq,↓reduceIte,Na,Nb,Nc,Nk,Nf,Ng,Nh,Za,Zb,Zc,TT, g5, g3, em, es, eye_lt_nat, decide_eq_false hi']
        refine hK _ _ ?_;clear hK K
        refine wC fun X Y hX hY => ?_
        simp only [↓DN,UP,DF,Qa,Qb,Qc,Qd,Qe,Qf,Qg,Qh,reduceCtorEq,↓reduceIte,Na,Nb,Nc,Nk,Nf,Ng,Nh,Za,Zb,Zc,TT, DB]
        refine hY ?_;clear hX hY X Y
        refine awp_exit ?_
        simp only [thenQ, blockQ, if_true]
        refine hK _ _ ?_;clear hK hK2 K2 K
        generalize eyeNodes i q1.2 = Q at *
        have hLne : Q.1 ≠ [] := by intro e; rw [e] at hLl; simp at hLl; omega
        have hxw := hx.weak
        have hxn := hxw
        rw [← hLl] at hxn
        have hrg := fun s => ACalls.weaks (.cons hxn .nil) (refRight20_calls (Γ := Γ) Q.1 hW s)
        have je : s4.objs p = some [.v (.string ⟨Q.2.1.toArray⟩), .v (.int .i64 Q.2.2)] := hob
        by_cases he : Q.2.2 = 0
        · rw [he] at je
          by_cases h1 : rightT Q.1
          · have hte : treeEnd Q = (Q.1, Q.2) := by simp only [treeEnd, if_pos h1, if_pos he]
            rw [hte]
            rw [decide_eq_true h1] at hrg
            refine wK fun K hK => ?_
            refine wS fun K hK => ?_
            simp only [↓DN,UP,DF,Qa,Qb,Qc,Qd,Qe,Qf,Qg,Qh,reduceCtorEq,↓reduceIte,Na,Nb,Nc,Nk,Nf,Ng,Nh,Za,Zb,Zc,TT, g0, g4, je, show ((0 : Int) == 0) = true from rfl]
            refine acallk (hrg _) ?_
            rintro r s5 ⟨rfl, rfl⟩
            simp only [↓AXq_nil,↓AXq_cons,pval,DX,Nat.reduceBEq,↓DN,UP,DF,Qa,Qb,Qc,Qd,Qe,Qf,Qg,Qh,reduceCtorEq,↓reduceIte,Na,Nb,Nc,Nk,Nf,Ng,Nh,Za,Zb,Zc,TT]
            refine hK _ _ ?_;clear hK K
            refine wC fun X Y hX hY => ?_
            simp only [↓DN,UP,DF,Qa,Qb,Qc,Qd,Qe,Qf,Qg,Qh,reduceCtorEq,↓reduceIte,Na,Nb,Nc,Nk,Nf,Ng,Nh,Za,Zb,Zc,TT, DB]
            refine hY ?_;clear hX hY X Y
            refine awp_skip ?_
            refine hK _ _ ?_;clear hK K
            refine wK fun K hK => ?_
            refine wS fun K hK => ?_
            simp only [↓DN,UP,DF,Qa,Qb,Qc,Qd,Qe,Qf,Qg,Qh,reduceCtorEq,↓reduceIte,Na,Nb,Nc,Nk,Nf,Ng,Nh,Za,Zb,Zc,TT, g0, je, i64_ne_false 0 rfl]
            refine hK _ _ ?_;clear hK K
            refine wC fun X Y hX hY => ?_
            simp only [↓DN,UP,DF,Qa,Qb,Qc,Qd,Qe,Qf,Qg,Qh,reduceCtorEq,↓reduceIte,Na,Nb,Nc,Nk,Nf,Ng,Nh,Za,Zb,Zc,TT, DB]
            refine hY ?_;clear hX hY X Y
            refine awp_skip ?_
            refine hK _ _ ?_;clear hK K
            refine wS fun K hK => ?_
            simp only [↓DN,UP,DF,Qa,Qb,Qc,Qd,Qe,Qf,Qg,Qh,reduceCtorEq,↓reduceIte,Na,Nb,Nc,Nk,Nf,Ng,Nh,Za,Zb,Zc,TT, g4]
            refine hK _ _ ?_;clear hK K
            refine awp_ret ?_
            try simp only [thenQ, blockQ]
            simp only [retQ, AEnds, aresL, ares, List.toList_toArray, ↓upd_same]; try simp only [UP,DF,Nc,↓reduceIte,DT]
            exact ⟨_, _, treeN_weak hxn hLne, AS.set_le_of hle hob, rfl, rfl⟩
          · have hte : treeEnd Q = ([], (Q.2.1, 40)) := by simp only [treeEnd, if_neg h1, failE_0 he]; rfl
            rw [hte]
            rw [decide_eq_false h1] at hrg
            refine wK fun K hK => ?_
            refine wS fun K hK => ?_
            simp only [↓DN,UP,DF,Qa,Qb,Qc,Qd,Qe,Qf,Qg,Qh,reduceCtorEq,↓reduceIte,Na,Nb,Nc,Nk,Nf,Ng,Nh,Za,Zb,Zc,TT, g0, g4, je, show ((0 : Int) == 0) = true from rfl]
            refine acallk (hrg _) ?_
            rintro r s5 ⟨rfl, rfl⟩
            simp only [↓AXq_nil,↓AXq_cons,pval,DX,Nat.reduceBEq,↓DN,UP,DF,Qa,Qb,Qc,Qd,Qe,Qf,Qg,Qh,reduceCtorEq,↓reduceIte,Na,Nb,Nc,Nk,Nf,Ng,Nh,Za,Zb,Zc,TT]
            refine hK _ _ ?_;clear hK K
            refine wC fun X Y hX hY => ?_
            simp only [↓DN,UP,DF,Qa,Qb,Qc,Qd,Qe,Qf,Qg,Qh,reduceCtorEq,↓reduceIte,Na,Nb,Nc,Nk,Nf,Ng,Nh,Za,Zb,Zc,TT, DB]
            refine hX ?_;clear hX hY X Y
            refine wE fun K8 hK8 => ?_
            simp only [↓DN,UP,DF,Qa,Qb,Qc,Qd,Qe,Qf,Qg,Qh,reduceCtorEq,↓reduceIte,Na,Nb,Nc,Nk,Nf,Ng,Nh,Za,Zb,Zc,TT, g0, je]
            refine hK8 _ _ ?_
            simp only [blockQ, thenQ, if_true, if_false]
            clear hK8 K8
            refine hK _ _ ?_;clear hK K
            have je2 : (s5.set p [.v (.string ⟨Q.2.1.toArray⟩), .v (.int .i64 40)]).objs p = some [.v (.string ⟨Q.2.1.toArray⟩), .v (.int .i64 40)] := AS.set_objs_same _ _ _
            have hle3 : (s.drop p).le (s5.set p [.v (.string ⟨Q.2.1.toArray⟩), .v (.int .i64 40)]) := AS.le_set hle (AS.drop_self s p) _
            generalize s5.set p [.v (.string ⟨Q.2.1.toArray⟩), .v (.int .i64 40)] = s6 at *
            refine wK fun K hK => ?_
            refine wS fun K hK => ?_
            simp only [↓DN,UP,DF,Qa,Qb,Qc,Qd,Qe,Qf,Qg,Qh,reduceCtorEq,↓reduceIte,Na,Nb,Nc,Nk,Nf,Ng,Nh,Za,Zb,Zc,TT, g0, je2, i64_ne_true 40 (by decide)]
            refine hK _ _ ?_;clear hK K
            refine wC fun X Y hX hY => ?_
            simp only [↓DN,UP,DF,Qa,Qb,Qc,Qd,Qe,Qf,Qg,Qh,reduceCtorEq,↓reduceIte,Na,Nb,Nc,Nk,Nf,Ng,Nh,Za,Zb,Zc,TT, DB]
            refine hX ?_;clear hX hY X Y
            refine wS fun K hK => ?_
            simp only [↓DN,UP,DF,Qa,Qb,Qc,Qd,Qe,Qf,Qg,Qh,reduceCtorEq,↓reduceIte,Na,Nb,Nc,Nk,Nf,Ng,Nh,Za,Zb,Zc,TT]
            refine hK _ _ ?_;clear hK K
            refine awp_ret ?_
            try simp only [thenQ, blockQ]
            simp only [retQ, AEnds, aresL, ares, List.toList_toArray, ↓upd_same]; try simp only [UP,DF,Nc,↓reduceIte,DT]
            exact ⟨_, _, AV.weak.refl _, AS.set_le_of hle3 je2, rfl, rfl⟩
        · have hte : treeEnd Q = ([], Q.2) := by
            by_cases h1 : rightT Q.1
            · simp only [treeEnd, if_pos h1, if_neg he]
            · simp only [treeEnd, if_neg h1, failE_ne he, if_neg he]
          rw [hte]
          refine wK fun K hK => ?_
          refine wS fun K hK => ?_
          simp only [↓DN,UP,DF,Qa,Qb,Qc,Qd,Qe,Qf,Qg,Qh,reduceCtorEq,↓reduceIte,Na,Nb,Nc,Nk,Nf,Ng,Nh,Za,Zb,Zc,TT, g0, g4, je, notI he]
          refine hK _ _ ?_;clear hK K
          refine wC fun X Y hX hY => ?_
          simp only [↓DN,UP,DF,Qa,Qb,Qc,Qd,Qe,Qf,Qg,Qh,reduceCtorEq,↓reduceIte,Na,Nb,Nc,Nk,Nf,Ng,Nh,Za,Zb,Zc,TT, DB]
          refine hY ?_;clear hX hY X Y
          refine awp_skip ?_
          refine hK _ _ ?_;clear hK K
          refine wK fun K hK => ?_
          refine wS fun K hK => ?_
          simp only [↓DN,UP,DF,Qa,Qb,Qc,Qd,Qe,Qf,Qg,Qh,reduceCtorEq,↓reduceIte,Na,Nb,Nc,Nk,Nf,Ng,Nh,Za,Zb,Zc,TT, g0, je, i64_ne_true _ he]
          refine hK _ _ ?_;clear hK K
          refine wC fun X Y hX hY => ?_
          simp only [↓DN,UP,DF,Qa,Qb,Qc,Qd,Qe,Qf,Qg,Qh,reduceCtorEq,↓reduceIte,Na,Nb,Nc,Nk,Nf,Ng,Nh,Za,Zb,Zc,TT, DB]
          refine hX ?_;clear hX hY X Y
          refine wS fun K hK => ?_
          simp only [↓DN,UP,DF,Qa,Qb,Qc,Qd,Qe,Qf,Qg,Qh,reduceCtorEq,↓reduceIte,Na,Nb,Nc,Nk,Nf,Ng,Nh,Za,Zb,Zc,TT]
          refine hK _ _ ?_;clear hK K
          refine awp_ret ?_
          try simp only [thenQ, blockQ]
          simp only [retQ, AEnds, aresL, ares, List.toList_toArray, ↓upd_same]; try simp only [UP,DF,Nc,↓reduceIte,DT]
          exact ⟨_, _, AV.weak.refl _, AS.set_le_of hle hob, rfl, rfl⟩
  · have htr : treeRead st = ([], failE 40 q1.2) := by simp only [treeRead, ← e1, if_neg hf]
    rw [htr]
    rw [decide_eq_false (fun q => hf (fitI_nat.1 q))] at hfi
    refine wS fun K hK => ?_
    simp only [↓DN,UP,DF,Qa,Qb,Qc,Qd,Qe,Qf,Qg,Qh,reduceCtorEq,↓reduceIte,Na,Nb,Nc,Nk,Nf,Ng,Nh,Za,Zb,Zc,TT]
    refine hK _ _ ?_;clear hK K
    refine wS fun K hK => ?_
    simp only [↓DN,UP,DF,Qa,Qb,Qc,Qd,Qe,Qf,Qg,Qh,reduceCtorEq,↓reduceIte,Na,Nb,Nc,Nk,Nf,Ng,Nh,Za,Zb,Zc,TT]
    refine acallk hu8 ?_
    rintro r s1 ⟨rfl, rfl⟩
    simp only [↓AXq_nil,↓AXq_cons,pval,DX,Nat.reduceBEq,↓DN,UP,DF,Qa,Qb,Qc,Qd,Qe,Qf,Qg,Qh,reduceCtorEq,↓reduceIte,Na,Nb,Nc,Nk,Nf,Ng,Nh,Za,Zb,Zc,TT, i64_conv (show q1.1 < 2 ^ 62 by omega)]
    refine hK _ _ ?_;clear hK K
    have je : (s.set p (reyeC q1.2)).objs p = some [.v (.string ⟨q1.2.1.toArray⟩), .v (.int .i64 q1.2.2)] := AS.set_objs_same _ _ _
    have hle := hle0 (reyeC q1.2)
    have hob0 : (s.set p (reyeC q1.2)).objs p = some (reyeC q1.2) := AS.set_objs_same _ _ _
    generalize s.set p (reyeC q1.2) = s2 at *
    by_cases he : q1.2.2 = 0
    · rw [he] at je
      rw [failE_0 he]
      refine wK fun K hK => ?_
      refine wS fun K hK => ?_
      simp only [↓DN,UP,DF,Qa,Qb,Qc,Qd,Qe,Qf,Qg,Qh,reduceCtorEq,↓reduceIte,Na,Nb,Nc,Nk,Nf,Ng,Nh,Za,Zb,Zc,TT, je, show ((0 : Int) == 0) = true from rfl]
      refine acallk (hfi _) ?_
      rintro r s3 ⟨rfl, rfl⟩
      simp only [↓AXq_nil,↓AXq_cons,pval,DX,Nat.reduceBEq,↓DN,UP,DF,Qa,Qb,Qc,Qd,Qe,Qf,Qg,Qh,reduceCtorEq,↓reduceIte,Na,Nb,Nc,Nk,Nf,Ng,Nh,Za,Zb,Zc,TT]
      refine hK _ _ ?_;clear hK K
      refine wC fun X Y hX hY => ?_
      simp only [↓DN,UP,DF,Qa,Qb,Qc,Qd,Qe,Qf,Qg,Qh,reduceCtorEq,↓reduceIte,Na,Nb,Nc,Nk,Nf,Ng,Nh,Za,Zb,Zc,TT, DB]
      refine hX ?_;clear hX hY X Y
      refine wE fun K8 hK8 => ?_
      simp only [↓DN,UP,DF,Qa,Qb,Qc,Qd,Qe,Qf,Qg,Qh,reduceCtorEq,↓reduceIte,Na,Nb,Nc,Nk,Nf,Ng,Nh,Za,Zb,Zc,TT, je]
      refine hK8 _ _ ?_
      simp only [blockQ, thenQ, if_true, if_false]
      clear hK8 K8
      refine hK _ _ ?_;clear hK K
      have je2 : (s3.set p [.v (.string ⟨q1.2.1.toArray⟩), .v (.int .i64 40)]).objs p = some [.v (.string ⟨q1.2.1.toArray⟩), .v (.int .i64 40)] := AS.set_objs_same _ _ _
      have hle3 : (s.drop p).le (s3.set p [.v (.string ⟨q1.2.1.toArray⟩), .v (.int .i64 40)]) := AS.le_set hle (AS.drop_self s p) _
      generalize s3.set p [.v (.string ⟨q1.2.1.toArray⟩), .v (.int .i64 40)] = s6 at *
      refine wK fun K hK => ?_
      refine wS fun K hK => ?_
      simp only [↓DN,UP,DF,Qa,Qb,Qc,Qd,Qe,Qf,Qg,Qh,reduceCtorEq,↓reduceIte,Na,Nb,Nc,Nk,Nf,Ng,Nh,Za,Zb,Zc,TT, je2, i64_ne_true 40 (by decide)]
      refine hK _ _ ?_;clear hK K
      refine wC fun X Y hX hY => ?_
      simp only [↓DN,UP,DF,Qa,Qb,Qc,Qd,Qe,Qf,Qg,Qh,reduceCtorEq,↓reduceIte,Na,Nb,Nc,Nk,Nf,Ng,Nh,Za,Zb,Zc,TT, DB]
      refine hX ?_;clear hX hY X Y
      refine wS fun K hK => ?_
      simp only [↓DN,UP,DF,Qa,Qb,Qc,Qd,Qe,Qf,Qg,Qh,reduceCtorEq,↓reduceIte,Na,Nb,Nc,Nk,Nf,Ng,Nh,Za,Zb,Zc,TT]
      refine hK _ _ ?_;clear hK K
      refine awp_ret ?_
      try simp only [thenQ, blockQ]
      simp only [retQ, AEnds, aresL, ares, List.toList_toArray, ↓upd_same]; try simp only [UP,DF,Nc,↓reduceIte,DT]
      exact ⟨_, _, AV.weak.refl _, AS.set_le_of hle3 je2, rfl, rfl⟩
    · rw [failE_ne he]
      refine wK fun K hK => ?_
      refine wS fun K hK => ?_
      simp only [↓DN,UP,DF,Qa,Qb,Qc,Qd,Qe,Qf,Qg,Qh,reduceCtorEq,↓reduceIte,Na,Nb,Nc,Nk,Nf,Ng,Nh,Za,Zb,Zc,TT, je, notI he]
      refine hK _ _ ?_;clear hK K
      refine wC fun X Y hX hY => ?_
      simp only [↓DN,UP,DF,Qa,Qb,Qc,Qd,Qe,Qf,Qg,Qh,reduceCtorEq,↓reduceIte,Na,Nb,Nc,Nk,Nf,Ng,Nh,Za,Zb,Zc,TT, DB]
      refine hY ?_;clear hX hY X Y
      refine awp_skip ?_
      refine hK _ _ ?_;clear hK K
      refine wK fun K hK => ?_
      refine wS fun K hK => ?_
      simp only [↓DN,UP,DF,Qa,Qb,Qc,Qd,Qe,Qf,Qg,Qh,reduceCtorEq,↓reduceIte,Na,Nb,Nc,Nk,Nf,Ng,Nh,Za,Zb,Zc,TT, je, i64_ne_true _ he]
      refine hK _ _ ?_;clear hK K
      refine wC fun X Y hX hY => ?_
      simp only [↓DN,UP,DF,Qa,Qb,Qc,Qd,Qe,Qf,Qg,Qh,reduceCtorEq,↓reduceIte,Na,Nb,Nc,Nk,Nf,Ng,Nh,Za,Zb,Zc,TT, DB]
      refine hX ?_;clear hX hY X Y
      refine wS fun K hK => ?_
      simp only [↓DN,UP,DF,Qa,Qb,Qc,Qd,Qe,Qf,Qg,Qh,reduceCtorEq,↓reduceIte,Na,Nb,Nc,Nk,Nf,Ng,Nh,Za,Zb,Zc,TT]
      refine hK _ _ ?_;clear hK K
      refine awp_ret ?_
      try simp only [thenQ, blockQ]
      simp only [retQ, AEnds, aresL, ares, List.toList_toArray, ↓upd_same]; try simp only [UP,DF,Nc,↓reduceIte,DT]
      exact ⟨_, _, AV.weak.refl _, AS.set_le_of hle hob0, rfl, rfl⟩

end Go.Proofs.YtcnilmidfhpckaaGreatDoor


set_option autoImplicit false
namespace Go.Proofs.YtcnilmidfhpckaaGreatDoor
open Go Go.AM Go.Proofs



variable {Γ : Nat → List AV}

def renI : Go.Shelf.Ren := ⟨fun | 21 => 80 | 27 => 116 | 28 => 117 | 35 => 139 | 39 => 147 | n => n, fun | 22 => 55 | n => n, fun n => n⟩
theorem laysI : Lays2.n21 Tryz.prog renI where
  mixed := by kernel_rfl
  f21 := (Tryz.func80).trans (congrArg some (by kernel_rfl))
  f27 := (Tryz.func116).trans (congrArg some (by kernel_rfl))
  f28 := (Tryz.func117).trans (congrArg some (by kernel_rfl))
  f35 := (Tryz.func139).trans (congrArg some (by kernel_rfl))
  f39 := (Tryz.func147).trans (congrArg some (by kernel_rfl))
  t0 := Tryz.underlying0
  a0 := Tryz.isAgg0
  z0 := Tryz.sizeOf0
  v0 := Tryz.zeroValue0
  t3 := Tryz.underlying3
  a3 := Tryz.isAgg3
  z3 := Tryz.sizeOf3
  v3 := Tryz.zeroValue3
  t4 := Tryz.underlying4
  a4 := Tryz.isAgg4
  z4 := Tryz.sizeOf4
  v4 := Tryz.zeroValue4
  t22 := Tryz.underlying55
  a22 := Tryz.isAgg55
  z22 := Tryz.sizeOf55
  v22 := Tryz.zeroValue55
  i3 := by kernel_rfl

def renS : Go.Shelf.Ren := ⟨fun | 25 => 79 | 31 => 114 | 32 => 115 | 37 => 138 | n => n, fun | 22 => 55 | 40 => 137 | n => n, fun n => n⟩
theorem laysS : Lays2.n25 Tryz.prog renS where
  mixed := by kernel_rfl
  f25 := (Tryz.func79).trans (congrArg some (by kernel_rfl))
  f31 := (Tryz.func114).trans (congrArg some (by kernel_rfl))
  f32 := (Tryz.func115).trans (congrArg some (by kernel_rfl))
  f37 := (Tryz.func138).trans (congrArg some (by kernel_rfl))
  t0 := Tryz.underlying0
  a0 := Tryz.isAgg0
  z0 := Tryz.sizeOf0
  v0 := Tryz.zeroValue0
  t3 := Tryz.underlying3
  a3 := Tryz.isAgg3
  z3 := Tryz.sizeOf3
  v3 := Tryz.zeroValue3
  t4 := Tryz.underlying4
  a4 := Tryz.isAgg4
  z4 := Tryz.sizeOf4
  v4 := Tryz.zeroValue4
  t22 := Tryz.underlying55
  a22 := Tryz.isAgg55
  z22 := Tryz.sizeOf55
  v22 := Tryz.zeroValue55
  t40 := Tryz.underlying137
  a40 := Tryz.isAgg137
  z40 := Tryz.sizeOf137
  v40 := Tryz.zeroValue137

theorem search20_calls {x : AV} {l : List Int} (v : Int) (hl : l.length < 2 ^ 62) (hs : l.Pairwise (· ≤ ·)) {s : AS} (hb : OBuf 1 s x l.length (l.map intC)) :
    ACalls Tryz.prog Γ 79 [x, .v (.int .i64 v)] s (fun r s' => r = .tup [.v (.int .i64 ((l.countP (· < v) : Nat) : Int)), .v (.bool (l.contains v))] ∧ s' = s) :=
  search_calls laysS v hl hs hb

end Go.Proofs.YtcnilmidfhpckaaGreatDoor


set_option autoImplicit false
namespace Go.Proofs.YtcnilmidfhpckaaGreatDoor
open Go Go.AM Go.Proofs



variable {Γ : Nat → List AV}

/-! ### Calls upon a tree of objects -/
theorem memberO_calls {sa s : AS} {X : AV} {TS : List (NodeV × AV)} (h : TreeO sa s X TS) (ht : TS.length ≤ 2 ^ 61) (i : Int) : ACalls Tryz.prog Γ 75 [X, .v (.int .i64 i)] s (fun r s' => r = .v (.bool (decide (memI (TS.map (·.1)) i))) ∧ s' = s) :=
  ACalls.view ((member_calls (Γ := Γ0) (TS.map (·.1)) (by simpa using ht) i s0).mono fun r s' h => h.1) (.cons h.view (.cons .val .nil))
theorem leavesO_calls {sa s : AS} {X : AV} {TS : List (NodeV × AV)} (h : TreeO sa s X TS) (ht : TS.length ≤ 2 ^ 61) : ACalls Tryz.prog Γ 35 [X] s (fun r s' => r = .v (.int .i64 (lvs (TS.map (·.1)))) ∧ s' = s) :=
  ACalls.view ((leaves_calls (Γ := Γ0) (TS.map (·.1)) (by simpa using ht) s0).mono fun r s' h => h.1) (.cons h.view .nil)
theorem membersO_calls {sa s : AS} {X : AV} {TS : List (NodeV × AV)} (h : TreeO sa s X TS) (ht : TS.length ≤ 2 ^ 61) (a k : Nat) (hak : a + k < 2 ^ 61) : ACalls Tryz.prog Γ 77 [X, .v (.int .i64 a), .v (.int .i64 (((a + k : Nat) : Int) - 1))] s (fun r s' => r = .v (.int .i64 (cntN (memI (TS.map (·.1))) a k)) ∧ s' = s) :=
  ACalls.view ((members_calls (Γ := Γ0) (TS.map (·.1)) (by simpa using ht) a k hak s0).mono fun r s' h => h.1) (.cons h.view (.cons .val (.cons .val .nil)))

end Go.Proofs.YtcnilmidfhpckaaGreatDoor


