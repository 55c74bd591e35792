/- Contracts of the program's functions, each walked once; the conditions stand in each theorem. -/
import Derived.Test.YtcnilmidfhpckaaGreatDoorAMp6
import Derived.Test.YtcnilmidfhpckaaGreatDoorW1
import Derived.Test.YtcnilmidfhpckaaGreatDoorW9
import Derived.Test.YtcnilmidfhpckaaGreatDoorW6
import Derived.Test.YtcnilmidfhpckaaGreatDoorAMp7
import Derived.Test.YtcnilmidfhpckaaGreatDoorW8
import Derived.Test.YtcnilmidfhpckaaGreatDoorW2
import Derived.Test.YtcnilmidfhpckaaGreatDoorW7
import Derived.Test.YtcnilmidfhpckaaGreatDoorRows
import Derived.Test.YtcnilmidfhpckaaGreatDoorAMp1
import Derived.ProofKit
import Derived.LaidMore
import Derived.MakeChecks
import Derived.OpenShut
import Derived.Test.YtcnilmidfhpckaaGreatDoorW5
set_option linter.unusedSimpArgs false
set_option linter.unusedVariables false
open Nat renaming reduceLT → Na, reduceLeDiff → Nb, reduceEqDiff → Nc, reduceAdd → Nk, reduceMul → Nf, reducePow → Ng, reduceSub → Nh
open Int renaming reduceLT → Za, reduceLE → Zb, reduceToNat → Zc
open Go.AM renaming ashift → Qa, aconv → Qb, aindexAddr → Qc, aindex → Qd, aslice → Qe, abuiltin → Qf, awp_reg_seq → wS, awp_reg_end → wE, awp_seq_k → wK, awp_cond_k → wC
open Go.AM.AV renaming cells → Qg, one → Qh
set_option autoImplicit false
namespace Go.Proofs.YtcnilmidfhpckaaGreatDoor
open Go Go.AM Go.Proofs


variable {Γ : Nat → List AV}

theorem ACalls.tidy {P : Program} {f : FuncId} {args : List AV} {s : AS} {Q : AV → Prop} (h : ACalls P Γ f args s (fun r s' => Q r ∧ s.le s')) : ACalls P Γ f args s (fun r s' => Q r ∧ s' = s) :=
  ACalls.settle h fun r s1 ⟨h1, h2⟩ => ⟨s, r, Settles.le r h2, h1, rfl⟩

set_option maxRecDepth 100000 in
set_option maxHeartbeats 4000000 in
theorem remove20_calls (hG : Γ 3 = dB64.map u8C) (t : List NodeV) (ht : TreeW t) (leaf : Int) (s : AS) :
    ACalls Tryz.prog Γ 32 [treeV t, .v (.int .i64 leaf)] s (fun r s' => r = .tup [treeN (remR t leaf).1, .v (.int .i64 (remR t leaf).2)] ∧ s.le s') := by
  have hr := fun s => right20_calls (Γ := Γ) hG t ht s
  have hm := fun s => member_calls (Γ := Γ) t ht.1 leaf s
  have hlv := fun s => leaves_calls (Γ := Γ) t ht.1 s
  by_cases h1 : rightT t
  · by_cases h2 : memI t leaf
    · have hlvs := lvs_le t
      by_cases h3 : cntN (memI t) 0 (lvs t) = 1
      · have hms := fun s => members_calls (Γ := Γ) t ht.1 0 (lvs t) (by omega) s
        have hres : remR t leaf = ([], 40) := by
          unfold remR
          rw [if_neg (fun h => h h1), if_neg (fun h => h h2), if_pos h3]
        rw [hres]
        rw [decide_eq_true h1] at hr
        rw [decide_eq_true h2] at hm
        rw [Nat.zero_add, h3] at hms
        have e1 : isub .i64 ((lvs t : Nat) : Int) 1 = ((lvs t : Nat) : Int) - 1 := isub_i64 (by omega)
        refine acalls_body Tryz.func32 rfl Tryz.ntmps32 Tryz.results32 (by simp) ?_
        unfold treeV at *
        generalize rowC NodeV.cells t = X at *
        refine wS fun K hK => ?_
        simp only [↓DN,UP,DF,Qa,Qb,Qc,Qd,Qe,Qf,Qg,Qh,reduceCtorEq,↓reduceIte,Na,Nb,Nc,Nk,Nf,Ng,Nh,Za,Zb,Zc,TT]
        refine hK _ _ ?_;clear hK K
        refine wS fun K hK => ?_
        simp only [↓DN,UP,DF,Qa,Qb,Qc,Qd,Qe,Qf,Qg,Qh,reduceCtorEq,↓reduceIte,Na,Nb,Nc,Nk,Nf,Ng,Nh,Za,Zb,Zc,TT]
        refine acallk (hlv _) ?_
        rintro r s0 ⟨rfl, rfl⟩
        simp only [↓AXq_nil,↓AXq_cons,pval,DX,Nat.reduceBEq,↓DN,UP,DF,Qa,Qb,Qc,Qd,Qe,Qf,Qg,Qh,reduceCtorEq,↓reduceIte,Na,Nb,Nc,Nk,Nf,Ng,Nh,Za,Zb,Zc,TT]
        refine hK _ _ ?_;clear hK K
        refine wK fun K hK => ?_
        refine awp_block ?_
        refine wS fun K hK => ?_
        simp only [↓DN,UP,DF,Qa,Qb,Qc,Qd,Qe,Qf,Qg,Qh,reduceCtorEq,↓reduceIte,Na,Nb,Nc,Nk,Nf,Ng,Nh,Za,Zb,Zc,TT]
        refine acallk (hr _) ?_
        rintro r s1 ⟨rfl, rfl⟩
        simp only [↓AXq_nil,↓AXq_cons,pval,DX,Nat.reduceBEq,↓DN,UP,DF,Qa,Qb,Qc,Qd,Qe,Qf,Qg,Qh,reduceCtorEq,↓reduceIte,Na,Nb,Nc,Nk,Nf,Ng,Nh,Za,Zb,Zc,TT]
        refine hK _ _ ?_;clear hK K
        refine wC fun X Y hX hY => ?_
        simp only [↓DN,UP,DF,Qa,Qb,Qc,Qd,Qe,Qf,Qg,Qh,reduceCtorEq,↓reduceIte,Na,Nb,Nc,Nk,Nf,Ng,Nh,Za,Zb,Zc,TT, DB]
        refine hY ?_;clear hX hY X Y
        refine wS fun K hK => ?_
        simp only [↓DN,UP,DF,Qa,Qb,Qc,Qd,Qe,Qf,Qg,Qh,reduceCtorEq,↓reduceIte,Na,Nb,Nc,Nk,Nf,Ng,Nh,Za,Zb,Zc,TT]
        refine acallk (hm _) ?_
        rintro r s2 ⟨rfl, rfl⟩
        simp only [↓AXq_nil,↓AXq_cons,pval,DX,Nat.reduceBEq,↓DN,UP,DF,Qa,Qb,Qc,Qd,Qe,Qf,Qg,Qh,reduceCtorEq,↓reduceIte,Na,Nb,Nc,Nk,Nf,Ng,Nh,Za,Zb,Zc,TT]
        refine hK _ _ ?_;clear hK K
        refine wC fun X Y hX hY => ?_
        simp only [↓DN,UP,DF,Qa,Qb,Qc,Qd,Qe,Qf,Qg,Qh,reduceCtorEq,↓reduceIte,Na,Nb,Nc,Nk,Nf,Ng,Nh,Za,Zb,Zc,TT, DB]
        refine hY ?_;clear hX hY X Y
        refine wS fun K hK => ?_
        simp only [↓DN,UP,DF,Qa,Qb,Qc,Qd,Qe,Qf,Qg,Qh,reduceCtorEq,↓reduceIte,Na,Nb,Nc,Nk,Nf,Ng,Nh,Za,Zb,Zc,TT, e1]
        refine acallk (hms _) ?_
        rintro r s3 ⟨rfl, rfl⟩
        simp only [↓AXq_nil,↓AXq_cons,pval,DX,Nat.reduceBEq,↓DN,UP,DF,Qa,Qb,Qc,Qd,Qe,Qf,Qg,Qh,reduceCtorEq,↓reduceIte,Na,Nb,Nc,Nk,Nf,Ng,Nh,Za,Zb,Zc,TT, show (((1 : Nat) : Int) == 1) = true from rfl]
        refine hK _ _ ?_;clear hK K
        refine wC fun X Y hX hY => ?_
        simp only [↓DN,UP,DF,Qa,Qb,Qc,Qd,Qe,Qf,Qg,Qh,reduceCtorEq,↓reduceIte,Na,Nb,Nc,Nk,Nf,Ng,Nh,Za,Zb,Zc,TT, DB]
        refine hX ?_;clear hX hY X Y
        refine wS fun K hK => ?_
        simp only [↓DN,UP,DF,Qa,Qb,Qc,Qd,Qe,Qf,Qg,Qh,reduceCtorEq,↓reduceIte,Na,Nb,Nc,Nk,Nf,Ng,Nh,Za,Zb,Zc,TT]
        refine hK _ _ ?_;clear hK K
        refine awp_ret ?_
        try simp only [thenQ, blockQ]
        simp only [retQ, AEnds, aresL, ares, List.toList_toArray, ↓upd_same]; try simp only [UP,DF,Nc,↓reduceIte,DT]
        exact ⟨_, _, AV.weak.refl _, AS.le.refl _, rfl, AS.le.refl _⟩
      · obtain ⟨l, rfl⟩ := Int.eq_ofNat_of_zero_le h2.1
        have hres : remR t (l : Int) = (rmT t l, 0) := by
          unfold remR
          rw [if_neg (fun h => h h1), if_neg (fun h => h h2), if_neg h3, Int.toNat_natCast]
        rw [hres]
        refine ACalls.settle (remMain_calls hG t ht l h1 h2 h3 s) ?_
        rintro r s1 ⟨X, T, rfl, hT, hO⟩
        obtain ⟨s2, k1, k2⟩ := hO.settle (Γ := Γ)
        refine ⟨s2, _, Settles.tupL _ k1, ?_, k2⟩
        have hR := rmT_right h1 ((memN_iff rfl _).1 h2).1
        rw [hT, treeN_ne]
        obtain ⟨q1, q2⟩ := hR.len
        have := q2.le
        show (rmT t l).length ≠ 0
        omega
    · have hres : remR t leaf = ([], 43) := by
        unfold remR
        rw [if_neg (fun h => h h1), if_pos h2]
      rw [hres]
      rw [decide_eq_true h1] at hr
      rw [decide_eq_false h2] at hm
      refine acalls_body Tryz.func32 rfl Tryz.ntmps32 Tryz.results32 (by simp) ?_
      unfold treeV at *
      generalize rowC NodeV.cells t = X at *
      refine wS fun K hK => ?_
      simp only [↓DN,UP,DF,Qa,Qb,Qc,Qd,Qe,Qf,Qg,Qh,reduceCtorEq,↓reduceIte,Na,Nb,Nc,Nk,Nf,Ng,Nh,Za,Zb,Zc,TT]
      refine hK _ _ ?_;clear hK K
      refine wS fun K hK => ?_
      simp only [↓DN,UP,DF,Qa,Qb,Qc,Qd,Qe,Qf,Qg,Qh,reduceCtorEq,↓reduceIte,Na,Nb,Nc,Nk,Nf,Ng,Nh,Za,Zb,Zc,TT]
      refine acallk (hlv _) ?_
      rintro r s0 ⟨rfl, rfl⟩
      simp only [↓AXq_nil,↓AXq_cons,pval,DX,Nat.reduceBEq,↓DN,UP,DF,Qa,Qb,Qc,Qd,Qe,Qf,Qg,Qh,reduceCtorEq,↓reduceIte,Na,Nb,Nc,Nk,Nf,Ng,Nh,Za,Zb,Zc,TT]
      refine hK _ _ ?_;clear hK K
      refine wK fun K hK => ?_
      refine awp_block ?_
      refine wS fun K hK => ?_
      simp only [↓DN,UP,DF,Qa,Qb,Qc,Qd,Qe,Qf,Qg,Qh,reduceCtorEq,↓reduceIte,Na,Nb,Nc,Nk,Nf,Ng,Nh,Za,Zb,Zc,TT]
      refine acallk (hr _) ?_
      rintro r s1 ⟨rfl, rfl⟩
      simp only [↓AXq_nil,↓AXq_cons,pval,DX,Nat.reduceBEq,↓DN,UP,DF,Qa,Qb,Qc,Qd,Qe,Qf,Qg,Qh,reduceCtorEq,↓reduceIte,Na,Nb,Nc,Nk,Nf,Ng,Nh,Za,Zb,Zc,TT]
      refine hK _ _ ?_;clear hK K
      refine wC fun X Y hX hY => ?_
      simp only [↓DN,UP,DF,Qa,Qb,Qc,Qd,Qe,Qf,Qg,Qh,reduceCtorEq,↓reduceIte,Na,Nb,Nc,Nk,Nf,Ng,Nh,Za,Zb,Zc,TT, DB]
      refine hY ?_;clear hX hY X Y
      refine wS fun K hK => ?_
      simp only [↓DN,UP,DF,Qa,Qb,Qc,Qd,Qe,Qf,Qg,Qh,reduceCtorEq,↓reduceIte,Na,Nb,Nc,Nk,Nf,Ng,Nh,Za,Zb,Zc,TT]
      refine acallk (hm _) ?_
      rintro r s2 ⟨rfl, rfl⟩
      simp only [↓AXq_nil,↓AXq_cons,pval,DX,Nat.reduceBEq,↓DN,UP,DF,Qa,Qb,Qc,Qd,Qe,Qf,Qg,Qh,reduceCtorEq,↓reduceIte,Na,Nb,Nc,Nk,Nf,Ng,Nh,Za,Zb,Zc,TT]
      refine hK _ _ ?_;clear hK K
      refine wC fun X Y hX hY => ?_
      simp only [↓DN,UP,DF,Qa,Qb,Qc,Qd,Qe,Qf,Qg,Qh,reduceCtorEq,↓reduceIte,Na,Nb,Nc,Nk,Nf,Ng,Nh,Za,Zb,Zc,TT, DB]
      refine hX ?_;clear hX hY X Y
      refine wS fun K hK => ?_
      simp only [↓DN,UP,DF,Qa,Qb,Qc,Qd,Qe,Qf,Qg,Qh,reduceCtorEq,↓reduceIte,Na,Nb,Nc,Nk,Nf,Ng,Nh,Za,Zb,Zc,TT]
      refine hK _ _ ?_;clear hK K
      refine awp_ret ?_
      try simp only [thenQ, blockQ]
      simp only [retQ, AEnds, aresL, ares, List.toList_toArray, ↓upd_same]; try simp only [UP,DF,Nc,↓reduceIte,DT]
      exact ⟨_, _, AV.weak.refl _, AS.le.refl _, rfl, AS.le.refl _⟩
  · have hres : remR t leaf = ([], 40) := if_pos h1
    rw [hres]
    rw [decide_eq_false h1] at hr
    refine acalls_body Tryz.func32 rfl Tryz.ntmps32 Tryz.results32 (by simp) ?_
    unfold treeV at *
    generalize rowC NodeV.cells t = X at *
    refine wS fun K hK => ?_
    simp only [↓DN,UP,DF,Qa,Qb,Qc,Qd,Qe,Qf,Qg,Qh,reduceCtorEq,↓reduceIte,Na,Nb,Nc,Nk,Nf,Ng,Nh,Za,Zb,Zc,TT]
    refine hK _ _ ?_;clear hK K
    refine wS fun K hK => ?_
    simp only [↓DN,UP,DF,Qa,Qb,Qc,Qd,Qe,Qf,Qg,Qh,reduceCtorEq,↓reduceIte,Na,Nb,Nc,Nk,Nf,Ng,Nh,Za,Zb,Zc,TT]
    refine acallk (hlv _) ?_
    rintro r s0 ⟨rfl, rfl⟩
    simp only [↓AXq_nil,↓AXq_cons,pval,DX,Nat.reduceBEq,↓DN,UP,DF,Qa,Qb,Qc,Qd,Qe,Qf,Qg,Qh,reduceCtorEq,↓reduceIte,Na,Nb,Nc,Nk,Nf,Ng,Nh,Za,Zb,Zc,TT]
    refine hK _ _ ?_;clear hK K
    refine wK fun K hK => ?_
    refine awp_block ?_
    refine wS fun K hK => ?_
    simp only [↓DN,UP,DF,Qa,Qb,Qc,Qd,Qe,Qf,Qg,Qh,reduceCtorEq,↓reduceIte,Na,Nb,Nc,Nk,Nf,Ng,Nh,Za,Zb,Zc,TT]
    refine acallk (hr _) ?_
    rintro r s1 ⟨rfl, rfl⟩
    simp only [↓AXq_nil,↓AXq_cons,pval,DX,Nat.reduceBEq,↓DN,UP,DF,Qa,Qb,Qc,Qd,Qe,Qf,Qg,Qh,reduceCtorEq,↓reduceIte,Na,Nb,Nc,Nk,Nf,Ng,Nh,Za,Zb,Zc,TT]
    refine hK _ _ ?_;clear hK K
    refine wC fun X Y hX hY => ?_
    simp only [↓DN,UP,DF,Qa,Qb,Qc,Qd,Qe,Qf,Qg,Qh,reduceCtorEq,↓reduceIte,Na,Nb,Nc,Nk,Nf,Ng,Nh,Za,Zb,Zc,TT, DB]
    refine hX ?_;clear hX hY X Y
    refine wS fun K hK => ?_
    simp only [↓DN,UP,DF,Qa,Qb,Qc,Qd,Qe,Qf,Qg,Qh,reduceCtorEq,↓reduceIte,Na,Nb,Nc,Nk,Nf,Ng,Nh,Za,Zb,Zc,TT]
    refine hK _ _ ?_;clear hK K
    refine awp_ret ?_
    try simp only [thenQ, blockQ]
    simp only [retQ, AEnds, aresL, ares, List.toList_toArray, ↓upd_same]; try simp only [UP,DF,Nc,↓reduceIte,DT]
    exact ⟨_, _, AV.weak.refl _, AS.le.refl _, rfl, AS.le.refl _⟩

end Go.Proofs.YtcnilmidfhpckaaGreatDoor


set_option autoImplicit false
namespace Go.AM
open Go Go.RowKit

variable {P : Program} {Γ : Nat → List AV} {s : AS}

/-! ### Rows of cells, one of them another one -/
/-- An object that nobody else has becomes a row to be read. -/
theorem Settles.tree {s : AS} {ob cap : Nat} {t : List NodeV} {rest : List AV} (h : s.objs ob = none) : Settles Γ (s.set ob (rowC NodeV.cells t ++ rest)) (.osl ob 0 5 t.length cap) s (treeV t) := by
  refine (Settles.outer (Γ := Γ) (AS.set_objs_same s ob _) (row_len cells_len t)).trans (Settles.le _ ?_)
  refine ⟨fun o cs hc => ?_, fun t e he => he⟩
  have hne : o ≠ ob := by rintro rfl; rw [h] at hc; cases hc
  rw [AS.drop_objs, upd_ne _ _ hne, AS.set_objs_ne _ hne]
  exact hc

/-! ### One operation of a region by its own law -/
end Go.AM


set_option autoImplicit false
namespace Go.AM
open Go Go.RowKit

/-! ### The reference's way to put a number into a rising row -/
theorem nodes_weak : ∀ k : Nat, AVs.weak (List.replicate k zN).flatten (rowC NodeV.cells (List.replicate k NodeV.nought))
  | 0 => .refl _
  | k + 1 => by
    have e1 : (List.replicate (k + 1) zN).flatten = zN ++ (List.replicate k zN).flatten := by rw [List.replicate_succ, List.flatten_cons]
    have e2 : rowC NodeV.cells (List.replicate (k + 1) NodeV.nought) = NodeV.nought.cells ++ rowC NodeV.cells (List.replicate k NodeV.nought) := by rw [List.replicate_succ]; rfl
    rw [e1, e2]
    exact AVs.weak.append (.cons (AV.weak.refl _) (.cons AV.weak_nil (.cons (AV.weak.refl _) (.cons AV.weak_nil (.cons AV.weak_nil .nil))))) (nodes_weak k)
theorem Settles.tells {Γ : Nat → List AV} {s s' : AS} (x : AV) (h : AS.tells Γ s s') : Settles Γ s x s' x := fun G w _ hs hv => ⟨G, .refl G, h G w hs, hv⟩
theorem Settles.more {Γ : Nat → List AV} {s : AS} {ob ob' cap cap' m k : Nat} {A rest' : List AV} {t : List NodeV} (h : s.objs ob = none) (h' : (s.set ob A).objs ob' = none ∨ ∃ c0, AV.osl ob 0 5 m cap = .osl ob' 0 5 m c0) :
    Settles Γ ((s.set ob A).set ob' (rowC NodeV.cells t ++ zrow (k * 5) zN ++ rest')) (.osl ob' 0 5 (t.length + k) cap') s (treeV (t ++ List.replicate k NodeV.nought)) := by
  have e : rowC NodeV.cells (t ++ List.replicate k NodeV.nought) = rowC NodeV.cells t ++ rowC NodeV.cells (List.replicate k NodeV.nought) := by simp only [rowC, List.map_append, List.flatten_append]
  have hl : (t ++ List.replicate k NodeV.nought).length = t.length + k := by simp
  have hw : AVs.weak (rowC NodeV.cells t ++ zrow (k * 5) zN ++ rest') (rowC NodeV.cells (t ++ List.replicate k NodeV.nought) ++ rest') := by
    rw [e, zrow_zN]
    exact AVs.weak.append (AVs.weak.append (.refl _) (nodes_weak k)) (.refl _)
  refine (Settles.tells _ (AS.tells_set hw)).trans ?_
  have h2 := Settles.outer (Γ := Γ) (sz := 5) (n := t.length + k) (cap := cap') (AS.set_objs_same (s.set ob A) ob' (rowC NodeV.cells (t ++ List.replicate k NodeV.nought) ++ rest')) (by rw [row_len cells_len, hl])
  have h3 : treeV (t ++ List.replicate k NodeV.nought) = .sl 5 (t.length + k) (rowC NodeV.cells (t ++ List.replicate k NodeV.nought)) .any := by unfold treeV; rw [hl]
  rw [h3]
  refine h2.trans (Settles.le _ ⟨fun o cs hc => ?_, fun t e he => he⟩)
  have hne : o ≠ ob := by rintro rfl; rw [h] at hc; cases hc
  have hne' : o ≠ ob' := by
    rintro rfl
    rcases h' with h' | ⟨c0, h'⟩
    · rw [AS.set_objs_ne _ hne, hc] at h'; cases h'
    · injection h' with q; exact hne q.symm
  rw [AS.drop_objs, upd_ne _ _ hne', AS.set_objs_ne _ hne', AS.set_objs_ne _ hne]
  exact hc

end Go.AM


set_option autoImplicit false
namespace Go.Proofs.YtcnilmidfhpckaaGreatDoor
open Go Go.AM Go.Proofs


variable {Γ : Nat → List AV}

/-! ### The document's example -/
def ex1 : List NodeV := [leafN [97] 9]
def ex2 : List NodeV := (addR ex1 [98] 9).1
def ex3 : List NodeV := (addR ex2 [99] 9).1
def ex4 : List NodeV := (remR ex3 2).1
instance (t : List NodeV) : Decidable (TreeW t) := by unfold TreeW; infer_instance
theorem ex1_ok : (leafN [97] 9).right ∧ TreeW ex1 := by decide +kernel
theorem ex2_ok : (addR ex1 [98] 9).2 = (1, 0) ∧ ex2.length = 3 ∧ TreeW ex2 := by decide +kernel
theorem ex3_ok : (addR ex2 [99] 9).2 = (2, 0) ∧ ex3.length = 7 ∧ TreeW ex3 ∧ (if rightT ex3 then lvs ex3 else 0) = 4 := by decide +kernel
theorem ex4_ok : (remR ex3 2).2 = 0 ∧ ex4.length = 3 ∧ TreeW ex4 ∧ (if rightT ex4 then lvs ex4 else 0) = 2 := by decide +kernel

set_option maxRecDepth 100000 in
set_option maxHeartbeats 2000000 in
theorem awake20_calls (hG : Γ 3 = dB64.map u8C) (s : AS) : ACalls Tryz.prog Γ 6 [] s (fun r s' => r = .v (.bool true) ∧ s' = s) := by
  refine acalls_body Tryz.func6 rfl Tryz.ntmps6 Tryz.results6 (by simp) ?_
  have h1 := fun s => new20_calls (Γ := Γ) [97] 9 (by decide) s
  have h2 := fun s => ACalls.tidy (add20_calls (Γ := Γ) hG ex1 ex1_ok.2 [98] 9 (by decide) s)
  have h3 := fun s => ACalls.tidy (add20_calls (Γ := Γ) hG ex2 ex2_ok.2.2 [99] 9 (by decide) s)
  have h4 := fun s => ACalls.tidy (remove20_calls (Γ := Γ) hG ex3 ex3_ok.2.2.1 2 s)
  have h5 := fun s => leaves20_calls (Γ := Γ) hG ex3 ex3_ok.2.2.1 s
  have h6 := fun s => leaves20_calls (Γ := Γ) hG ex4 ex4_ok.2.2.1 s
  rw [ex3_ok.2.2.2] at h5
  rw [ex4_ok.2.2.2] at h6
  have e1 : treeV [leafN [97] 9] = treeV ex1 := rfl
  rw [if_pos ex1_ok.1, e1] at h1
  have e2 : treeN (addR ex1 [98] 9).1 = treeV ex2 := treeN_ne (by rw [show (addR ex1 [98] 9).1 = ex2 from rfl, ex2_ok.2.1]; decide)
  have e3 : treeN (addR ex2 [99] 9).1 = treeV ex3 := treeN_ne (by rw [show (addR ex2 [99] 9).1 = ex3 from rfl, ex3_ok.2.1]; decide)
  have e4 : treeN (remR ex3 2).1 = treeV ex4 := treeN_ne (by rw [show (remR ex3 2).1 = ex4 from rfl, ex4_ok.2.1]; decide)
  rw [e2, ex2_ok.1] at h2
  rw [e3, ex3_ok.1] at h3
  rw [e4, ex4_ok.1] at h4
  generalize treeV ex1 = t1 at *
  generalize treeV ex2 = t2 at *
  generalize treeV ex3 = t3 at *
  generalize treeV ex4 = t4 at *
  unfold bytesV at *
  refine wS fun K hK => ?_
  simp only [↓DN,UP,DF,Qa,Qb,Qc,Qd,Qe,Qf,Qg,Qh,reduceCtorEq,↓reduceIte,Na,Nb,Nc,Nk,Nf,Ng,Nh,Za,Zb,Zc,TT]
  refine hK _ _ ?_;clear hK K
  refine wS fun K hK => ?_
  simp only [↓DN,UP,DF,Qa,Qb,Qc,Qd,Qe,Qf,Qg,Qh,reduceCtorEq,↓reduceIte,Na,Nb,Nc,Nk,Nf,Ng,Nh,Za,Zb,Zc,TT, show List.replicate 1 (AV.v (.int .u8 0)) = [AV.v (.int .u8 0)] from rfl]
  refine acallk (ACalls.weaks (.cons AV.weak_any (.cons (AV.weak.refl _) .nil)) (h1 _)) ?_
  rintro r s1 ⟨rfl, rfl⟩
  simp only [↓AXq_nil,↓AXq_cons,pval,DX,Nat.reduceBEq,↓DN,UP,DF,Qa,Qb,Qc,Qd,Qe,Qf,Qg,Qh,reduceCtorEq,↓reduceIte,Na,Nb,Nc,Nk,Nf,Ng,Nh,Za,Zb,Zc,TT]
  refine hK _ _ ?_;clear hK K
  refine wS fun K hK => ?_
  simp only [↓DN,UP,DF,Qa,Qb,Qc,Qd,Qe,Qf,Qg,Qh,reduceCtorEq,↓reduceIte,Na,Nb,Nc,Nk,Nf,Ng,Nh,Za,Zb,Zc,TT, show List.replicate 1 (AV.v (.int .u8 0)) = [AV.v (.int .u8 0)] from rfl]
  refine acallk (ACalls.weaks (.cons (AV.weak.refl _) (.cons AV.weak_any (.cons (AV.weak.refl _) .nil))) (h2 _)) ?_
  rintro r s2 ⟨rfl, rfl⟩
  simp only [↓AXq_nil,↓AXq_cons,pval,DX,Nat.reduceBEq,↓DN,UP,DF,Qa,Qb,Qc,Qd,Qe,Qf,Qg,Qh,reduceCtorEq,↓reduceIte,Na,Nb,Nc,Nk,Nf,Ng,Nh,Za,Zb,Zc,TT]
  refine hK _ _ ?_;clear hK K
  refine wS fun K hK => ?_
  simp only [↓DN,UP,DF,Qa,Qb,Qc,Qd,Qe,Qf,Qg,Qh,reduceCtorEq,↓reduceIte,Na,Nb,Nc,Nk,Nf,Ng,Nh,Za,Zb,Zc,TT, show List.replicate 1 (AV.v (.int .u8 0)) = [AV.v (.int .u8 0)] from rfl]
  refine acallk (ACalls.weaks (.cons (AV.weak.refl _) (.cons AV.weak_any (.cons (AV.weak.refl _) .nil))) (h3 _)) ?_
  rintro r s3 ⟨rfl, rfl⟩
  simp only [↓AXq_nil,↓AXq_cons,pval,DX,Nat.reduceBEq,↓DN,UP,DF,Qa,Qb,Qc,Qd,Qe,Qf,Qg,Qh,reduceCtorEq,↓reduceIte,Na,Nb,Nc,Nk,Nf,Ng,Nh,Za,Zb,Zc,TT]
  refine hK _ _ ?_;clear hK K
  refine wS fun K hK => ?_
  simp only [↓DN,UP,DF,Qa,Qb,Qc,Qd,Qe,Qf,Qg,Qh,reduceCtorEq,↓reduceIte,Na,Nb,Nc,Nk,Nf,Ng,Nh,Za,Zb,Zc,TT]
  refine acallk (h4 _) ?_
  rintro r s4 ⟨rfl, rfl⟩
  simp only [↓AXq_nil,↓AXq_cons,pval,DX,Nat.reduceBEq,↓DN,UP,DF,Qa,Qb,Qc,Qd,Qe,Qf,Qg,Qh,reduceCtorEq,↓reduceIte,Na,Nb,Nc,Nk,Nf,Ng,Nh,Za,Zb,Zc,TT]
  refine hK _ _ ?_;clear hK K
  refine wS fun K hK => ?_
  simp only [↓DN,UP,DF,Qa,Qb,Qc,Qd,Qe,Qf,Qg,Qh,reduceCtorEq,↓reduceIte,Na,Nb,Nc,Nk,Nf,Ng,Nh,Za,Zb,Zc,TT, show ((0 : Int) == 0) = true from rfl, show ((2 : Int) == 2) = true from rfl, show (((2 : Nat) : Int) == 2) = true from rfl, show (((0 : Nat) : Int) == 0) = true from rfl]
  refine acallk (h5 _) ?_
  rintro r s5 ⟨rfl, rfl⟩
  simp only [↓AXq_nil,↓AXq_cons,pval,DX,Nat.reduceBEq,↓DN,UP,DF,Qa,Qb,Qc,Qd,Qe,Qf,Qg,Qh,reduceCtorEq,↓reduceIte,Na,Nb,Nc,Nk,Nf,Ng,Nh,Za,Zb,Zc,TT, show (((4 : Nat) : Int) == 4) = true from rfl]
  refine acallk (h6 _) ?_
  rintro r s6 ⟨rfl, rfl⟩
  simp only [↓AXq_nil,↓AXq_cons,pval,DX,Nat.reduceBEq,↓DN,UP,DF,Qa,Qb,Qc,Qd,Qe,Qf,Qg,Qh,reduceCtorEq,↓reduceIte,Na,Nb,Nc,Nk,Nf,Ng,Nh,Za,Zb,Zc,TT, show (((2 : Nat) : Int) == 2) = true from rfl]
  refine hK _ _ ?_;clear hK K
  refine awp_ret ?_
  try simp only [thenQ, blockQ]
  simp only [retQ, AEnds, aresL, ares, List.toList_toArray, ↓upd_same]; try simp only [UP,DF,Nc,↓reduceIte,DT]
  exact ⟨_, _, AV.weak.refl _, AS.le.refl _, rfl, rfl⟩

/-! ### Small rows -/
def smallN (n : NodeV) : Prop := n.name.length ≤ 40 ∧ n.parent.length ≤ 60 ∧ n.unm.length ≤ 40
def smallT (t : List NodeV) : Prop := t.length ≤ 63 ∧ ∀ n ∈ t, smallN n
instance (n : NodeV) : Decidable (smallN n) := by unfold smallN; infer_instance
instance (t : List NodeV) : Decidable (smallT t) := by unfold smallT; infer_instance

set_option maxRecDepth 100000 in
set_option maxHeartbeats 2000000 in
theorem small20_calls (t : List NodeV) (s : AS) : ACalls Tryz.prog Γ 7 [treeV t] s (fun r s' => r = .v (.bool (decide (smallT t))) ∧ s' = s) := by
  refine acalls_body Tryz.func7 rfl Tryz.ntmps7 Tryz.results7 (by simp) ?_
  have hat := fun (i : Nat) (hi : i < t.length) => node_at hi
  unfold treeV
  generalize hX : rowC NodeV.cells t = X at *
  refine wS fun K hK => ?_
  simp only [↓DN,UP,DF,Qa,Qb,Qc,Qd,Qe,Qf,Qg,Qh,reduceCtorEq,↓reduceIte,Na,Nb,Nc,Nk,Nf,Ng,Nh,Za,Zb,Zc,TT]
  refine hK _ _ ?_;clear hK K
  refine wK fun K hK => ?_
  by_cases h12 : t.length ≤ 63
  · refine wS fun K hK => ?_
    simp only [↓DN,UP,DF,Qa,Qb,Qc,Qd,Qe,Qf,Qg,Qh,reduceCtorEq,↓reduceIte,Na,Nb,Nc,Nk,Nf,Ng,Nh,Za,Zb,Zc,TT, decide_eq_false (show ¬ (63 : Int) < (t.length : Int) by omega)]
    refine hK _ _ ?_;clear hK K
    refine wC fun X Y hX hY => ?_
    simp only [↓DN,UP,DF,Qa,Qb,Qc,Qd,Qe,Qf,Qg,Qh,reduceCtorEq,↓reduceIte,Na,Nb,Nc,Nk,Nf,Ng,Nh,Za,Zb,Zc,TT, DB]
    refine hY ?_;clear hX hY X Y
    refine awp_skip ?_
    refine hK _ _ ?_;clear hK K
    refine wK fun K hK => ?_
    refine wS fun K hK => ?_
    simp only [↓DN,UP,DF,Qa,Qb,Qc,Qd,Qe,Qf,Qg,Qh,reduceCtorEq,↓reduceIte,Na,Nb,Nc,Nk,Nf,Ng,Nh,Za,Zb,Zc,TT]
    refine hK _ _ ?_;clear hK K
    refine awp_block ?_
    refine awp_loop (fun E s2 => ∃ i : Nat, i ≤ t.length ∧ (∀ b ∈ t.take i, smallN b) ∧ E 3 = .v (.int .i64 i) ∧ E 0 = .sl 5 t.length X .any ∧ s2 = s)
      (fun E _ => match E 3 with | .v (.int _ i) => t.length - i.toNat | _ => 0) ?_ ?_
    · exact ⟨0, Nat.zero_le _, by simp, by simp only [upd, Nc, ↓reduceIte]; rfl, by simp only [upd, initE, List.getD_cons_zero, List.getD_cons_succ, Nc, ↓reduceIte], rfl⟩
    · rintro E1 s4 ⟨i, hi, hall, g3, g0, rfl⟩ -
      refine wK fun K2 hK2 => ?_
      by_cases hi' : i < t.length
      · refine wS fun K hK => ?_
        simp only [↓DN,UP,DF,Qa,Qb,Qc,Qd,Qe,Qf,Qg,Qh,reduceCtorEq,↓reduceIte,Na,Nb,Nc,Nk,Nf,Ng,Nh,Za,Zb,Zc,TT, g3, g0, eye_lt_nat, decide_eq_true hi']
        refine hK _ _ ?_;clear hK K
        refine wC fun X Y hX hY => ?_
        simp only [↓DN,UP,DF,Qa,Qb,Qc,Qd,Qe,Qf,Qg,Qh,reduceCtorEq,↓reduceIte,Na,Nb,Nc,Nk,Nf,Ng,Nh,Za,Zb,Zc,TT, DB]
        refine hX ?_;clear hX hY X Y
        refine awp_skip ?_
        refine hK2 _ _ ?_;clear hK2 K2
        refine wK fun K3 hK3 => ?_
        refine awp_block ?_
        have hge : (0 : Int) ≤ (i : Int) := by omega
        have hat' := hat i hi'
        have htk := List.take_succ_eq_append_getElem hi'
        have hmem := List.getElem_mem hi'
        rw [nd_get hi'] at hat'
        generalize t[i] = N at *
        have hout : ∀ (q : ¬ smallN N), ¬ smallT t := fun q r => q (r.2 N hmem)
        obtain ⟨nk, nm, ny, npa, nu⟩ := N
        unfold NodeV.cells at hat'
        unfold bytesV intsV at hat'
        by_cases b1 : nm.length ≤ 40
        · by_cases b2 : npa.length ≤ 60
          · by_cases b3 : nu.length ≤ 40
            · refine wS fun K hK => ?_
              simp only [↓DN,UP,DF,Qa,Qb,Qc,Qd,Qe,Qf,Qg,Qh,reduceCtorEq,↓reduceIte,Na,Nb,Nc,Nk,Nf,Ng,Nh,Za,Zb,Zc,TT, g3, g0, hge, eye_lt_nat, hi', hat', decide_eq_false (show ¬ (40 : Int) < (nm.length : Int) by omega), decide_eq_false (show ¬ (60 : Int) < (npa.length : Int) by omega), decide_eq_false (show ¬ (40 : Int) < (nu.length : Int) by omega)]
              refine hK _ _ ?_;clear hK K
              refine wC fun X Y hX hY => ?_
              simp only [↓DN,UP,DF,Qa,Qb,Qc,Qd,Qe,Qf,Qg,Qh,reduceCtorEq,↓reduceIte,Na,Nb,Nc,Nk,Nf,Ng,Nh,Za,Zb,Zc,TT, DB]
              refine hY ?_;clear hX hY X Y
              refine awp_skip ?_
              simp only [blockQ, thenQ, if_true, if_false]
              refine hK3 _ _ ?_;clear hK3 K3
              refine wE fun K hK => ?_
              simp only [↓DN,UP,DF,Qa,Qb,Qc,Qd,Qe,Qf,Qg,Qh,reduceCtorEq,↓reduceIte,Na,Nb,Nc,Nk,Nf,Ng,Nh,Za,Zb,Zc,TT, g3, eye_succM i (by omega)]
              refine hK _ _ ?_;clear hK K
              refine ⟨⟨i + 1, by omega, ?_, by simp only [upd, Nc, ↓reduceIte], by simp only [upd, g0, Nc, ↓reduceIte], rfl⟩, ?_⟩
              · rw [htk]
                intro x hx
                rw [List.mem_append, List.mem_singleton] at hx
                rcases hx with hx | rfl
                · exact hall x hx
                · exact ⟨b1, b2, b3⟩
              · simp only [g3, upd, ↓reduceIte]
                omega
            · refine wS fun K hK => ?_
              simp only [↓DN,UP,DF,Qa,Qb,Qc,Qd,Qe,Qf,Qg,Qh,reduceCtorEq,↓reduceIte,Na,Nb,Nc,Nk,Nf,Ng,Nh,Za,Zb,Zc,TT, g3, g0, hge, eye_lt_nat, hi', hat', decide_eq_false (show ¬ (40 : Int) < (nm.length : Int) by omega), decide_eq_false (show ¬ (60 : Int) < (npa.length : Int) by omega), decide_eq_true (show (40 : Int) < (nu.length : Int) by omega)]
              refine hK _ _ ?_;clear hK K
              refine wC fun X Y hX hY => ?_
              simp only [↓DN,UP,DF,Qa,Qb,Qc,Qd,Qe,Qf,Qg,Qh,reduceCtorEq,↓reduceIte,Na,Nb,Nc,Nk,Nf,Ng,Nh,Za,Zb,Zc,TT, DB]
              refine hX ?_;clear hX hY X Y
              refine wS fun K hK => ?_
              simp only [↓DN,UP,DF,Qa,Qb,Qc,Qd,Qe,Qf,Qg,Qh,reduceCtorEq,↓reduceIte,Na,Nb,Nc,Nk,Nf,Ng,Nh,Za,Zb,Zc,TT]
              refine hK _ _ ?_;clear hK K
              refine awp_ret ?_
              try simp only [thenQ, blockQ]
              simp only [retQ, AEnds, aresL, ares, List.toList_toArray, ↓upd_same]; try simp only [UP,DF,Nc,↓reduceIte,DT]
              rw [decide_eq_false (hout fun q => b3 q.2.2)]
              exact ⟨_, _, AV.weak.refl _, AS.le.refl _, rfl, rfl⟩
          · refine wS fun K hK => ?_
            simp only [↓DN,UP,DF,Qa,Qb,Qc,Qd,Qe,Qf,Qg,Qh,reduceCtorEq,↓reduceIte,Na,Nb,Nc,Nk,Nf,Ng,Nh,Za,Zb,Zc,TT, g3, g0, hge, eye_lt_nat, hi', hat', decide_eq_false (show ¬ (40 : Int) < (nm.length : Int) by omega), decide_eq_true (show (60 : Int) < (npa.length : Int) by omega)]
            refine hK _ _ ?_;clear hK K
            refine wC fun X Y hX hY => ?_
            simp only [↓DN,UP,DF,Qa,Qb,Qc,Qd,Qe,Qf,Qg,Qh,reduceCtorEq,↓reduceIte,Na,Nb,Nc,Nk,Nf,Ng,Nh,Za,Zb,Zc,TT, DB]
            refine hX ?_;clear hX hY X Y
            refine wS fun K hK => ?_
            simp only [↓DN,UP,DF,Qa,Qb,Qc,Qd,Qe,Qf,Qg,Qh,reduceCtorEq,↓reduceIte,Na,Nb,Nc,Nk,Nf,Ng,Nh,Za,Zb,Zc,TT]
            refine hK _ _ ?_;clear hK K
            refine awp_ret ?_
            try simp only [thenQ, blockQ]
            simp only [retQ, AEnds, aresL, ares, List.toList_toArray, ↓upd_same]; try simp only [UP,DF,Nc,↓reduceIte,DT]
            rw [decide_eq_false (hout fun q => b2 q.2.1)]
            exact ⟨_, _, AV.weak.refl _, AS.le.refl _, rfl, rfl⟩
        · refine wS fun K hK => ?_
          simp only [↓DN,UP,DF,Qa,Qb,Qc,Qd,Qe,Qf,Qg,Qh,reduceCtorEq,↓reduceIte,Na,Nb,Nc,Nk,Nf,Ng,Nh,Za,Zb,Zc,TT, g3, g0, hge, eye_lt_nat, hi', hat', decide_eq_true (show (40 : Int) < (nm.length : Int) by omega)]
          refine hK _ _ ?_;clear hK K
          refine wC fun X Y hX hY => ?_
          simp only [↓DN,UP,DF,Qa,Qb,Qc,Qd,Qe,Qf,Qg,Qh,reduceCtorEq,↓reduceIte,Na,Nb,Nc,Nk,Nf,Ng,Nh,Za,Zb,Zc,TT, DB]
          refine hX ?_;clear hX hY X Y
          refine wS fun K hK => ?_
          simp only [↓DN,UP,DF,Qa,Qb,Qc,Qd,Qe,Qf,Qg,Qh,reduceCtorEq,↓reduceIte,Na,Nb,Nc,Nk,Nf,Ng,Nh,Za,Zb,Zc,TT]
          refine hK _ _ ?_;clear hK K
          refine awp_ret ?_
          try simp only [thenQ, blockQ]
          simp only [retQ, AEnds, aresL, ares, List.toList_toArray, ↓upd_same]; try simp only [UP,DF,Nc,↓reduceIte,DT]
          rw [decide_eq_false (hout fun q => b1 q.1)]
          exact ⟨_, _, AV.weak.refl _, AS.le.refl _, rfl, rfl⟩
      · refine wS fun K hK => ?_
        simp only [↓DN,UP,DF,Qa,Qb,Qc,Qd,Qe,Qf,Qg,Qh,reduceCtorEq,↓reduceIte,Na,Nb,Nc,Nk,Nf,Ng,Nh,Za,Zb,Zc,TT, g3, g0, eye_lt_nat, decide_eq_false hi']
        refine hK _ _ ?_;clear hK K
        refine wC fun X Y hX hY => ?_
        simp only [↓DN,UP,DF,Qa,Qb,Qc,Qd,Qe,Qf,Qg,Qh,reduceCtorEq,↓reduceIte,Na,Nb,Nc,Nk,Nf,Ng,Nh,Za,Zb,Zc,TT, DB]
        refine hY ?_;clear hX hY X Y
        refine awp_exit ?_
        simp only [thenQ, blockQ, if_true]
        refine hK _ _ ?_;clear hK hK2 K2 K
        obtain rfl : i = t.length := by omega
        rw [List.take_length] at hall
        refine wS fun K hK => ?_
        simp only [↓DN,UP,DF,Qa,Qb,Qc,Qd,Qe,Qf,Qg,Qh,reduceCtorEq,↓reduceIte,Na,Nb,Nc,Nk,Nf,Ng,Nh,Za,Zb,Zc,TT]
        refine hK _ _ ?_;clear hK K
        refine awp_ret ?_
        try simp only [thenQ, blockQ]
        simp only [retQ, AEnds, aresL, ares, List.toList_toArray, ↓upd_same]; try simp only [UP,DF,Nc,↓reduceIte,DT]
        rw [decide_eq_true (show smallT t from ⟨h12, hall⟩)]
        exact ⟨_, _, AV.weak.refl _, AS.le.refl _, rfl, rfl⟩
  · refine wS fun K hK => ?_
    simp only [↓DN,UP,DF,Qa,Qb,Qc,Qd,Qe,Qf,Qg,Qh,reduceCtorEq,↓reduceIte,Na,Nb,Nc,Nk,Nf,Ng,Nh,Za,Zb,Zc,TT, decide_eq_true (show (63 : Int) < (t.length : Int) by omega)]
    refine hK _ _ ?_;clear hK K
    refine wC fun X Y hX hY => ?_
    simp only [↓DN,UP,DF,Qa,Qb,Qc,Qd,Qe,Qf,Qg,Qh,reduceCtorEq,↓reduceIte,Na,Nb,Nc,Nk,Nf,Ng,Nh,Za,Zb,Zc,TT, DB]
    refine hX ?_;clear hX hY X Y
    refine wS fun K hK => ?_
    simp only [↓DN,UP,DF,Qa,Qb,Qc,Qd,Qe,Qf,Qg,Qh,reduceCtorEq,↓reduceIte,Na,Nb,Nc,Nk,Nf,Ng,Nh,Za,Zb,Zc,TT]
    refine hK _ _ ?_;clear hK K
    refine awp_ret ?_
    try simp only [thenQ, blockQ]
    simp only [retQ, AEnds, aresL, ares, List.toList_toArray, ↓upd_same]; try simp only [UP,DF,Nc,↓reduceIte,DT]
    rw [decide_eq_false (fun q : smallT t => h12 q.1)]
    exact ⟨_, _, AV.weak.refl _, AS.le.refl _, rfl, rfl⟩

end Go.Proofs.YtcnilmidfhpckaaGreatDoor


set_option autoImplicit false
namespace Go.Proofs.YtcnilmidfhpckaaGreatDoor
open Go Go.AM Go.Proofs


variable {Γ : Nat → List AV}

theorem boolF : (false != false) = false ∧ (true != true) = false ∧ (false == false) = true ∧ (true == true) = true := ⟨rfl, rfl, rfl, rfl⟩
theorem smallW {t : List NodeV} (h : smallT t) (hk : ∀ n ∈ t, n.key < 2 ^ 64) : TreeW t := by
  refine ⟨by have := h.1; omega, fun n hn => ⟨by have := (h.2 n hn).2.2; omega, hk n hn⟩⟩
theorem right_key {n : NodeV} (h : n.right) : n.key < 2 ^ 64 := by
  rcases node_kind h with hk | hk | hk
  · rw [(right_zero hk).1 h]; decide
  · have := ((right_one hk).1 h).2.2.1.2.1; omega
  · have := ((right_two hk).1 h).2.1.2.1; omega
theorem rightW {t : List NodeV} (h : rightT t) : TreeW t := by
  have hl := h.len
  have := hl.2.le
  refine ⟨by omega, fun n hn => ⟨by have := (right_small (h.nodes hn)).2.2; omega, right_key (h.nodes hn)⟩⟩
theorem nilW : TreeW [] := ⟨by simp, fun n hn => by cases hn⟩

theorem sameN_calls (a b : List NodeV) (ha : TreeW a) (s : AS) : ACalls Tryz.prog Γ 14 [treeN a, treeN b] s (fun r s' => r = .v (.bool (decide (a = b))) ∧ s' = s) := by
  have hw : ∀ t, (treeN t).weak (treeV t) := by
    intro t
    unfold treeN
    split
    · rename_i h
      rw [h]
      exact AV.weak_nil
    · exact AV.weak.refl _
  exact ACalls.weaks (.cons (hw a) (.cons (hw b) .nil)) (same20_calls a b ha s)
theorem treeRead_W (st : EyeSt) : TreeW (treeRead st).1 := by
  by_cases h : (treeRead st).2.2 = 0
  · exact rightW (treeRead_right h)
  · rw [treeRead_none h]; exact nilW

set_option maxRecDepth 100000 in
set_option maxHeartbeats 8000000 in
theorem ratchetReads_calls (hG : Γ 3 = dB64.map u8C) (t : List NodeV) (hk : ∀ n ∈ t, n.key < 2 ^ 64) (b : List UInt8) (s : AS) :
    ACalls Tryz.prog Γ 3 [treeV t, bytesV b .any] s (fun r s' => r = .v (.bool true)) := by
  refine acalls_body Tryz.func3 rfl Tryz.ntmps3 Tryz.results3 (by simp) ?_
  have haw := fun s => awake20_calls (Γ := Γ) hG s
  have hsm := fun s => small20_calls (Γ := Γ) t s
  by_cases h1 : smallT t
  · rw [decide_eq_true h1] at hsm
    by_cases h2 : b.length ≤ 2000
    · have ht := smallW h1 hk
      have hwr := fun s0 s p (h : PenS s0 s p ([], false)) => treeWrite_calls (Γ := Γ) hG t ht s0 s p ([], false) (by simp) h
      have hrr := fun s => refRight20_calls (Γ := Γ) t ht s
      have hbb := fun s0 s p st (hl) (h : PenS s0 s p st) => penBytes_calls (Γ := Γ) s0 s p st hl h
      have hrd := fun (s : AS) (p : Nat) (st : EyeSt) (hl) (h : s.objs p = some (eyeC st)) => treeRead_calls (Γ := Γ) hG s p st hl h
      have hrd2 := fun (s : AS) (p : Nat) (h : s.objs p = some (reyeC (b, 0))) => refTreeRead_calls (Γ := Γ) s p (b, 0) (by simp only; omega) h
      have hrd1 := fun (s : AS) (p : Nat) (h : s.objs p = some (eyeC (b, 0))) => hrd s p (b, 0) (by simp only; omega) h
      have hQW := treeRead_W (b, 0)
      generalize treeRead (b, 0) = Q at *
      obtain ⟨ql, S, e⟩ := Q
      simp only at hrd1 hrd2 hQW
      have hsq := fun s => sameN_calls (Γ := Γ) ql ql hQW s
      rw [decide_eq_true rfl] at hsq
      generalize treeN ql = QV at *
      refine wS fun K hK => ?_
      simp only [↓DN,UP,DF,Qa,Qb,Qc,Qd,Qe,Qf,Qg,Qh,reduceCtorEq,↓reduceIte,Na,Nb,Nc,Nk,Nf,Ng,Nh,Za,Zb,Zc,TT]
      refine hK _ _ ?_;clear hK K
      refine wK fun K hK => ?_
      refine wS fun K hK => ?_
      simp only [↓DN,UP,DF,Qa,Qb,Qc,Qd,Qe,Qf,Qg,Qh,reduceCtorEq,↓reduceIte,Na,Nb,Nc,Nk,Nf,Ng,Nh,Za,Zb,Zc,TT]
      refine acallk (haw _) ?_
      rintro r s1 ⟨rfl, rfl⟩
      simp only [↓AXq_nil,↓AXq_cons,pval,DX,Nat.reduceBEq,↓DN,UP,DF,Qa,Qb,Qc,Qd,Qe,Qf,Qg,Qh,reduceCtorEq,↓reduceIte,Na,Nb,Nc,Nk,Nf,Ng,Nh,Za,Zb,Zc,TT]
      refine acallk (hsm _) ?_
      rintro r s2 ⟨rfl, rfl⟩
      simp only [↓AXq_nil,↓AXq_cons,pval,DX,Nat.reduceBEq,↓DN,UP,DF,Qa,Qb,Qc,Qd,Qe,Qf,Qg,Qh,reduceCtorEq,↓reduceIte,Na,Nb,Nc,Nk,Nf,Ng,Nh,Za,Zb,Zc,TT, decide_eq_false (show ¬ (2000 : Int) < (b.length : Int) by omega)]
      refine hK _ _ ?_;clear hK K
      refine wC fun X Y hX hY => ?_
      simp only [↓DN,UP,DF,Qa,Qb,Qc,Qd,Qe,Qf,Qg,Qh,reduceCtorEq,↓reduceIte,Na,Nb,Nc,Nk,Nf,Ng,Nh,Za,Zb,Zc,TT, DB]
      refine hY ?_;clear hX hY X Y
      refine awp_skip ?_
      refine hK _ _ ?_;clear hK K
      refine wS fun K hK => ?_
      simp only [↓DN,UP,DF,Qa,Qb,Qc,Qd,Qe,Qf,Qg,Qh,reduceCtorEq,↓reduceIte,Na,Nb,Nc,Nk,Nf,Ng,Nh,Za,Zb,Zc,TT]
      refine acallk (new_calls _) ?_
      rintro r s3 ⟨p, rfl, hp⟩
      simp only [↓AXq_nil,↓AXq_cons,pval,DX,Nat.reduceBEq,↓DN,UP,DF,Qa,Qb,Qc,Qd,Qe,Qf,Qg,Qh,reduceCtorEq,↓reduceIte,Na,Nb,Nc,Nk,Nf,Ng,Nh,Za,Zb,Zc,TT]
      refine hK _ _ ?_;clear hK K
      refine wS fun K hK => ?_
      simp only [↓DN,UP,DF,Qa,Qb,Qc,Qd,Qe,Qf,Qg,Qh,reduceCtorEq,↓reduceIte,Na,Nb,Nc,Nk,Nf,Ng,Nh,Za,Zb,Zc,TT]
      refine acallk (hwr _ _ p hp) ?_
      rintro r s4 ⟨rfl, hp4⟩
      simp only [↓AXq_nil,↓AXq_cons,pval,DX,Nat.reduceBEq,↓DN,UP,DF,Qa,Qb,Qc,Qd,Qe,Qf,Qg,Qh,reduceCtorEq,↓reduceIte,Na,Nb,Nc,Nk,Nf,Ng,Nh,Za,Zb,Zc,TT]
      refine hK _ _ ?_;clear hK K
      clear hp hwr
      have hpen : treePen t ([], false) = (if rightT t then (treeText t, false) else ([], true)) := by
        unfold treePen
        split
        · simp only [penRaw, Bool.false_eq_true, if_false, List.nil_append]
        · rfl
      rw [hpen] at hp4
      have hbb2 : ACalls Tryz.prog Γ 10 [.ptr p 0] s4 (fun r s' => r = .tup [bytesV (if rightT t then treeText t else []) .any, .v (.bool (decide (rightT t)))] ∧ s' = s4) := by
        by_cases hr : rightT t
        · rw [if_pos hr] at hp4 ⊢
          have htl := treeText_len hr
          have := hbb _ _ p _ (by simp only; omega) hp4
          simpa [hr] using this
        · rw [if_neg hr] at hp4 ⊢
          have := hbb _ _ p _ (by simp) hp4
          simpa [hr] using this
      clear hp4 hpen hbb
      have hrw := fun (hr : rightT t) s => refTreeWrite_calls (Γ := Γ) t ht hr s
      have hrt := fun (hr : rightT t) => treeRead_text hr []
      have htl := fun (hr : rightT t) => treeText_len hr
      have hst := fun s => sameN_calls (Γ := Γ) t t ht s
      rw [decide_eq_true rfl] at hst
      have hne := fun (hr : rightT t) => (treeN_ne (t := t) (by obtain ⟨q1, q2⟩ := hr.len; have := q2.le; omega))
      have hopen := fun (l : List UInt8) (hl : l.length ≤ 2 ^ 40) (s : AS) => open_set (Γ := Γ) l s (by omega)
      generalize hTB : (if rightT t then treeText t else []) = TB at *
      unfold bytesV at hbb2 hopen
      refine wS fun K hK => ?_
      simp only [↓DN,UP,DF,Qa,Qb,Qc,Qd,Qe,Qf,Qg,Qh,reduceCtorEq,↓reduceIte,Na,Nb,Nc,Nk,Nf,Ng,Nh,Za,Zb,Zc,TT]
      refine acallk hbb2 ?_
      rintro r s5 ⟨rfl, rfl⟩
      simp only [↓AXq_nil,↓AXq_cons,pval,DX,Nat.reduceBEq,↓DN,UP,DF,Qa,Qb,Qc,Qd,Qe,Qf,Qg,Qh,reduceCtorEq,↓reduceIte,Na,Nb,Nc,Nk,Nf,Ng,Nh,Za,Zb,Zc,TT]
      refine hK _ _ ?_;clear hK K
      refine wK fun K hK => ?_
      have h6 : ∀ (E : Env), E 0 = treeV t → E 1 = .sl 1 b.length (b.map byteV) .any → E 6 = .sl 1 TB.length (TB.map byteV) .any → E 7 = .v (.bool (decide (rightT t))) → K E s5 := by
        intro E g0 g1 g6 g7
        refine hK _ _ ?_;clear hK K
        refine wK fun K hK => ?_
        have h8 : ∀ (E : Env) (s : AS), E 1 = .sl 1 b.length (b.map byteV) .any → K E s := by
          clear g0 g1 g6 g7
          intro E s g1
          refine hK _ _ ?_;clear hK K
          refine wS fun K hK => ?_
          simp only [↓DN,UP,DF,Qa,Qb,Qc,Qd,Qe,Qf,Qg,Qh,reduceCtorEq,↓reduceIte,Na,Nb,Nc,Nk,Nf,Ng,Nh,Za,Zb,Zc,TT, g1]
          refine acallk (hopen b (by omega) _) ?_
          rintro r s6 ⟨p2, hp2, rfl, rfl⟩
          simp only [↓AXq_nil,↓AXq_cons,pval,DX,Nat.reduceBEq,↓DN,UP,DF,Qa,Qb,Qc,Qd,Qe,Qf,Qg,Qh,reduceCtorEq,↓reduceIte,Na,Nb,Nc,Nk,Nf,Ng,Nh,Za,Zb,Zc,TT]
          refine hK _ _ ?_;clear hK K
          refine wS fun K hK => ?_
          simp only [↓DN,UP,DF,Qa,Qb,Qc,Qd,Qe,Qf,Qg,Qh,reduceCtorEq,↓reduceIte,Na,Nb,Nc,Nk,Nf,Ng,Nh,Za,Zb,Zc,TT, g1]
          intro q hq
          have hqp : q ≠ p2 := by
            rintro rfl
            simp at hq
          have hpq := hqp.symm
          refine hK _ _ ?_;clear hK K
          refine wS fun K hK => ?_
          simp only [↓DN,UP,DF,Qa,Qb,Qc,Qd,Qe,Qf,Qg,Qh,reduceCtorEq,↓reduceIte,Na,Nb,Nc,Nk,Nf,Ng,Nh,Za,Zb,Zc,TT]
          refine acallk (hrd1 _ p2 (by rw [AS.set_objs_ne _ hpq, AS.set_objs_same])) ?_
          rintro r s7 ⟨rfl, rfl⟩
          rw [AS.set_mid _ hpq]
          simp only [↓AXq_nil,↓AXq_cons,pval,DX,Nat.reduceBEq,↓DN,UP,DF,Qa,Qb,Qc,Qd,Qe,Qf,Qg,Qh,reduceCtorEq,↓reduceIte,Na,Nb,Nc,Nk,Nf,Ng,Nh,Za,Zb,Zc,TT, hqp, hpq]
          refine acallk (hrd2 _ q (AS.set_objs_same _ _ _)) ?_
          rintro r s8 ⟨rfl, rfl⟩
          rw [AS.set_set]
          simp only [↓AXq_nil,↓AXq_cons,pval,DX,Nat.reduceBEq,↓DN,UP,DF,Qa,Qb,Qc,Qd,Qe,Qf,Qg,Qh,reduceCtorEq,↓reduceIte,Na,Nb,Nc,Nk,Nf,Ng,Nh,Za,Zb,Zc,TT, hqp, hpq]
          refine hK _ _ ?_;clear hK K
          have je : ((s.set p2 (eyeC (S, e))).set q (reyeC (S, e))).objs p2 = some (eyeC (S, e)) := by rw [AS.set_objs_ne _ hpq, AS.set_objs_same]
          have jq : ((s.set p2 (eyeC (S, e))).set q (reyeC (S, e))).objs q = some [.v (.string ⟨S.toArray⟩), .v (.int .i64 e)] := AS.set_objs_same _ _ _
          generalize (s.set p2 (eyeC (S, e))).set q (reyeC (S, e)) = s9 at *
          by_cases he : e = 0
          · subst he
            refine awp_mrk_seq T.mixed [(q, [.v (.string ⟨S.toArray⟩), .v (.int .i64 0)])] [2, 5, 20] [9, 16, 24] [] (by kernel_rfl) (by simp only [Pres_cons, Pres_nil, and_true]; simp [AS.set, upd, jq]) ?_
            intro K hK
            simp only [↓AXr_nil, ↓AXr_cons, gval, lval, fzGet_cons, fzGet_nil, Pres_cons, Pres_nil, List.any_cons, List.any_nil, List.contains_cons, List.contains_nil, Nat.reduceBEq, Bool.or_false, Bool.or_true, Bool.or_self, Bool.false_or, ↓DN,UP,DF,Qa,Qb,Qc,Qd,Qe,Qf,Qg,Qh,reduceCtorEq,↓reduceIte,Na,Nb,Nc,Nk,Nf,Ng,Nh,Za,Zb,Zc,TT, jq, i64_eq_true 0 rfl]
            refine acallk (hsq _) ?_
            rintro r s10 ⟨rfl, rfl⟩
            simp only [↓AXq_nil, ↓AXq_cons, pval, ↓AXr_nil, ↓AXr_cons, gval, lval, fzGet_cons, fzGet_nil, Pres_cons, Pres_nil, List.any_cons, List.any_nil, DX, Nat.reduceBEq, ↓DN,UP,DF,Qa,Qb,Qc,Qd,Qe,Qf,Qg,Qh,reduceCtorEq,↓reduceIte,Na,Nb,Nc,Nk,Nf,Ng,Nh,Za,Zb,Zc,TT, jq, i64_eq_true 0 rfl, i64_ne_false 0 rfl]
            refine acallk (eyeErr_at _ p2 (S, 0) je) ?_
            rintro r s11 ⟨rfl, rfl⟩
            simp only [↓AXq_nil, ↓AXq_cons, pval, ↓AXr_nil, ↓AXr_cons, gval, lval, fzGet_cons, fzGet_nil, Pres_cons, Pres_nil, List.any_cons, List.any_nil, DX, Nat.reduceBEq, ↓DN,UP,DF,Qa,Qb,Qc,Qd,Qe,Qf,Qg,Qh,reduceCtorEq,↓reduceIte,Na,Nb,Nc,Nk,Nf,Ng,Nh,Za,Zb,Zc,TT, jq, i64_eq_true 0 rfl, i64_ne_false 0 rfl]
            refine acallk (eyeLeft_at _ p2 (S, 0) je) ?_
            rintro r s12 ⟨rfl, rfl⟩
            simp only [↓AXq_nil, ↓AXq_cons, pval, ↓AXr_nil, ↓AXr_cons, gval, lval, fzGet_cons, fzGet_nil, Pres_cons, Pres_nil, List.any_cons, List.any_nil, DX, Nat.reduceBEq, ↓DN,UP,DF,Qa,Qb,Qc,Qd,Qe,Qf,Qg,Qh,reduceCtorEq,↓reduceIte,Na,Nb,Nc,Nk,Nf,Ng,Nh,Za,Zb,Zc,TT, jq, i64_eq_true 0 rfl, i64_ne_false 0 rfl]
            refine hK _ _ ?_;clear hK K
            refine awp_ret ?_
            try simp only [thenQ, blockQ]
            simp only [retQ, AEnds, aresL, ares, List.toList_toArray, ↓upd_same]; try simp only [UP,DF,Nc,↓reduceIte,DT]
            exact ⟨_, _, AV.weak.refl _, AS.le.refl _, by first | rfl | simp⟩
          · refine awp_mrk_seq T.mixed [(q, [.v (.string ⟨S.toArray⟩), .v (.int .i64 e)])] [2, 5, 20] [9, 16, 24] [] (by kernel_rfl) (by simp only [Pres_cons, Pres_nil, and_true]; simp [AS.set, upd, jq]) ?_
            intro K hK
            simp only [↓AXr_nil, ↓AXr_cons, gval, lval, fzGet_cons, fzGet_nil, Pres_cons, Pres_nil, List.any_cons, List.any_nil, List.contains_cons, List.contains_nil, Nat.reduceBEq, Bool.or_false, Bool.or_true, Bool.or_self, Bool.false_or, ↓DN,UP,DF,Qa,Qb,Qc,Qd,Qe,Qf,Qg,Qh,reduceCtorEq,↓reduceIte,Na,Nb,Nc,Nk,Nf,Ng,Nh,Za,Zb,Zc,TT, jq]
            refine acallk (hsq _) ?_
            rintro r s10 ⟨rfl, rfl⟩
            simp only [↓AXq_nil, ↓AXq_cons, pval, ↓AXr_nil, ↓AXr_cons, gval, lval, fzGet_cons, fzGet_nil, Pres_cons, Pres_nil, List.any_cons, List.any_nil, DX, Nat.reduceBEq, ↓DN,UP,DF,Qa,Qb,Qc,Qd,Qe,Qf,Qg,Qh,reduceCtorEq,↓reduceIte,Na,Nb,Nc,Nk,Nf,Ng,Nh,Za,Zb,Zc,TT, jq, i64_ne_true e he]
            refine acallk (eyeErr_at _ p2 (S, e) je) ?_
            rintro r s11 ⟨rfl, rfl⟩
            simp only [↓AXq_nil, ↓AXq_cons, pval, ↓AXr_nil, ↓AXr_cons, gval, lval, fzGet_cons, fzGet_nil, Pres_cons, Pres_nil, List.any_cons, List.any_nil, DX, Nat.reduceBEq, ↓DN,UP,DF,Qa,Qb,Qc,Qd,Qe,Qf,Qg,Qh,reduceCtorEq,↓reduceIte,Na,Nb,Nc,Nk,Nf,Ng,Nh,Za,Zb,Zc,TT, jq, i64_ne_true e he]
            refine hK _ _ ?_;clear hK K
            refine awp_ret ?_
            try simp only [thenQ, blockQ]
            simp only [retQ, AEnds, aresL, ares, List.toList_toArray, ↓upd_same]; try simp only [UP,DF,Nc,↓reduceIte,DT]
            exact ⟨_, _, AV.weak.refl _, AS.le.refl _, by first | rfl | simp⟩
        clear hK
        by_cases hr : rightT t
        · rw [if_pos hr] at hTB
          rw [decide_eq_true hr] at g7
          have hrt' := hrt hr
          rw [List.append_nil, hTB] at hrt'
          have htl' := htl hr
          rw [hTB] at htl'
          have hrd3 := fun (s : AS) (p : Nat) (h : s.objs p = some (eyeC (TB, 0))) => hrd s p (TB, 0) (by simp only; omega) h
          rw [hrt'] at hrd3
          simp only at hrd3
          rw [hne hr] at hrd3 hst
          generalize treeV t = TV at *
          refine wS fun K hK => ?_
          simp only [↓DN,UP,DF,Qa,Qb,Qc,Qd,Qe,Qf,Qg,Qh,reduceCtorEq,↓reduceIte,Na,Nb,Nc,Nk,Nf,Ng,Nh,Za,Zb,Zc,TT, g7]
          refine hK _ _ ?_;clear hK K
          refine wC fun X Y hX hY => ?_
          simp only [↓DN,UP,DF,Qa,Qb,Qc,Qd,Qe,Qf,Qg,Qh,reduceCtorEq,↓reduceIte,Na,Nb,Nc,Nk,Nf,Ng,Nh,Za,Zb,Zc,TT, DB]
          refine hX ?_;clear hX hY X Y
          refine wS fun K hK => ?_
          simp only [↓DN,UP,DF,Qa,Qb,Qc,Qd,Qe,Qf,Qg,Qh,reduceCtorEq,↓reduceIte,Na,Nb,Nc,Nk,Nf,Ng,Nh,Za,Zb,Zc,TT, g6]
          refine acallk (hopen TB (by omega) _) ?_
          rintro r s6 ⟨p2, hp2, rfl, rfl⟩
          simp only [↓AXq_nil,↓AXq_cons,pval,DX,Nat.reduceBEq,↓DN,UP,DF,Qa,Qb,Qc,Qd,Qe,Qf,Qg,Qh,reduceCtorEq,↓reduceIte,Na,Nb,Nc,Nk,Nf,Ng,Nh,Za,Zb,Zc,TT]
          refine hK _ _ ?_;clear hK K
          refine wS fun K hK => ?_
          simp only [↓DN,UP,DF,Qa,Qb,Qc,Qd,Qe,Qf,Qg,Qh,reduceCtorEq,↓reduceIte,Na,Nb,Nc,Nk,Nf,Ng,Nh,Za,Zb,Zc,TT, g0]
          refine acallk (hrd3 _ p2 (AS.set_objs_same _ _ _)) ?_
          rintro r s7 ⟨rfl, rfl⟩
          simp only [↓AXq_nil,↓AXq_cons,pval,DX,Nat.reduceBEq,↓DN,UP,DF,Qa,Qb,Qc,Qd,Qe,Qf,Qg,Qh,reduceCtorEq,↓reduceIte,Na,Nb,Nc,Nk,Nf,Ng,Nh,Za,Zb,Zc,TT, g0]
          refine acallk (hst _) ?_
          rintro r s8 ⟨rfl, rfl⟩
          simp only [↓AXq_nil,↓AXq_cons,pval,DX,Nat.reduceBEq,↓DN,UP,DF,Qa,Qb,Qc,Qd,Qe,Qf,Qg,Qh,reduceCtorEq,↓reduceIte,Na,Nb,Nc,Nk,Nf,Ng,Nh,Za,Zb,Zc,TT]
          refine acallk (eyeEnd_at _ p2 ([], 0) (AS.set_objs_same _ _ _)) ?_
          rintro r s9 ⟨rfl, rfl⟩
          rw [show eyeEnd ([], 0) = 0 from rfl]
          simp only [↓AXq_nil,↓AXq_cons,pval,DX,Nat.reduceBEq,↓DN,UP,DF,Qa,Qb,Qc,Qd,Qe,Qf,Qg,Qh,reduceCtorEq,↓reduceIte,Na,Nb,Nc,Nk,Nf,Ng,Nh,Za,Zb,Zc,TT, show ((0 : Int) != 0) = false from rfl]
          refine hK _ _ ?_;clear hK K
          refine wC fun X Y hX hY => ?_
          simp only [↓DN,UP,DF,Qa,Qb,Qc,Qd,Qe,Qf,Qg,Qh,reduceCtorEq,↓reduceIte,Na,Nb,Nc,Nk,Nf,Ng,Nh,Za,Zb,Zc,TT, DB]
          refine hY ?_;clear hX hY X Y
          refine awp_skip ?_
          exact h8 _ _ (by simp only [upd, g1, Nc, ↓reduceIte])
        · rw [decide_eq_false hr] at g7
          refine wS fun K hK => ?_
          simp only [↓DN,UP,DF,Qa,Qb,Qc,Qd,Qe,Qf,Qg,Qh,reduceCtorEq,↓reduceIte,Na,Nb,Nc,Nk,Nf,Ng,Nh,Za,Zb,Zc,TT, g7]
          refine hK _ _ ?_;clear hK K
          refine wC fun X Y hX hY => ?_
          simp only [↓DN,UP,DF,Qa,Qb,Qc,Qd,Qe,Qf,Qg,Qh,reduceCtorEq,↓reduceIte,Na,Nb,Nc,Nk,Nf,Ng,Nh,Za,Zb,Zc,TT, DB]
          refine hY ?_;clear hX hY X Y
          refine awp_skip ?_
          exact h8 _ _ (by simp only [upd, g1, Nc, ↓reduceIte])
      clear hK
      by_cases hr : rightT t
      · have hrw' := hrw hr
        have hTB' : treeText t = TB := by rw [← hTB, if_pos hr]
        rw [hTB'] at hrw'
        rw [decide_eq_true hr] at hrr h6 ⊢
        generalize treeV t = TV at *
        refine awp_drw_seq T.mixed [2, 10] (by kernel_rfl) ?_
        intro K hK
        simp only [↓AXq_nil,↓AXq_cons,pval,DX,Nat.reduceBEq,↓DN,UP,DF,Qa,Qb,Qc,Qd,Qe,Qf,Qg,Qh,reduceCtorEq,↓reduceIte,Na,Nb,Nc,Nk,Nf,Ng,Nh,Za,Zb,Zc,TT]
        refine acallk (hrr _) ?_
        rintro r s6 ⟨rfl, rfl⟩
        simp only [↓AXq_nil,↓AXq_cons,pval,DX,Nat.reduceBEq,↓DN,UP,DF,Qa,Qb,Qc,Qd,Qe,Qf,Qg,Qh,reduceCtorEq,↓reduceIte,Na,Nb,Nc,Nk,Nf,Ng,Nh,Za,Zb,Zc,TT, boolF]
        refine acallk (hrw' _) ?_
        rintro r s7 ⟨rfl, rfl⟩
        simp only [↓AXq_nil,↓AXq_cons,pval,DX,Nat.reduceBEq,↓DN,UP,DF,Qa,Qb,Qc,Qd,Qe,Qf,Qg,Qh,reduceCtorEq,↓reduceIte,Na,Nb,Nc,Nk,Nf,Ng,Nh,Za,Zb,Zc,TT, boolF]
        refine hK _ _ ?_;clear hK K
        refine wC fun X Y hX hY => ?_
        simp only [↓DN,UP,DF,Qa,Qb,Qc,Qd,Qe,Qf,Qg,Qh,reduceCtorEq,↓reduceIte,Na,Nb,Nc,Nk,Nf,Ng,Nh,Za,Zb,Zc,TT, DB]
        refine hY ?_;clear hX hY X Y
        refine awp_skip ?_
        exact h6 _ (by simp only [upd, initE, List.getD_cons_zero, List.getD_cons_succ, Nc, ↓reduceIte]) (by simp only [upd, initE, List.getD_cons_zero, List.getD_cons_succ, Nc, ↓reduceIte]) (by simp only [upd, Nc, ↓reduceIte]) (by simp only [upd, Nc, ↓reduceIte])
      · rw [decide_eq_false hr] at hrr h6 ⊢
        generalize treeV t = TV at *
        refine awp_drw_seq T.mixed [2, 10] (by kernel_rfl) ?_
        intro K hK
        simp only [↓AXq_nil,↓AXq_cons,pval,DX,Nat.reduceBEq,↓DN,UP,DF,Qa,Qb,Qc,Qd,Qe,Qf,Qg,Qh,reduceCtorEq,↓reduceIte,Na,Nb,Nc,Nk,Nf,Ng,Nh,Za,Zb,Zc,TT]
        refine acallk (hrr _) ?_
        rintro r s6 ⟨rfl, rfl⟩
        simp only [↓AXq_nil,↓AXq_cons,pval,DX,Nat.reduceBEq,↓DN,UP,DF,Qa,Qb,Qc,Qd,Qe,Qf,Qg,Qh,reduceCtorEq,↓reduceIte,Na,Nb,Nc,Nk,Nf,Ng,Nh,Za,Zb,Zc,TT, boolF]
        refine hK _ _ ?_;clear hK K
        refine wC fun X Y hX hY => ?_
        simp only [↓DN,UP,DF,Qa,Qb,Qc,Qd,Qe,Qf,Qg,Qh,reduceCtorEq,↓reduceIte,Na,Nb,Nc,Nk,Nf,Ng,Nh,Za,Zb,Zc,TT, DB]
        refine hY ?_;clear hX hY X Y
        refine awp_skip ?_
        exact h6 _ (by simp only [upd, initE, List.getD_cons_zero, List.getD_cons_succ, Nc, ↓reduceIte]) (by simp only [upd, initE, List.getD_cons_zero, List.getD_cons_succ, Nc, ↓reduceIte]) (by simp only [upd, Nc, ↓reduceIte]) (by simp only [upd, Nc, ↓reduceIte])
    · unfold bytesV at *
      refine wS fun K hK => ?_
      simp only [↓DN,UP,DF,Qa,Qb,Qc,Qd,Qe,Qf,Qg,Qh,reduceCtorEq,↓reduceIte,Na,Nb,Nc,Nk,Nf,Ng,Nh,Za,Zb,Zc,TT]
      refine hK _ _ ?_;clear hK K
      refine wK fun K hK => ?_
      refine wS fun K hK => ?_
      simp only [↓DN,UP,DF,Qa,Qb,Qc,Qd,Qe,Qf,Qg,Qh,reduceCtorEq,↓reduceIte,Na,Nb,Nc,Nk,Nf,Ng,Nh,Za,Zb,Zc,TT]
      refine acallk (haw _) ?_
      rintro r s1 ⟨rfl, rfl⟩
      simp only [↓AXq_nil,↓AXq_cons,pval,DX,Nat.reduceBEq,↓DN,UP,DF,Qa,Qb,Qc,Qd,Qe,Qf,Qg,Qh,reduceCtorEq,↓reduceIte,Na,Nb,Nc,Nk,Nf,Ng,Nh,Za,Zb,Zc,TT]
      refine acallk (hsm _) ?_
      rintro r s2 ⟨rfl, rfl⟩
      simp only [↓AXq_nil,↓AXq_cons,pval,DX,Nat.reduceBEq,↓DN,UP,DF,Qa,Qb,Qc,Qd,Qe,Qf,Qg,Qh,reduceCtorEq,↓reduceIte,Na,Nb,Nc,Nk,Nf,Ng,Nh,Za,Zb,Zc,TT, decide_eq_true (show (2000 : Int) < (b.length : Int) by omega)]
      refine hK _ _ ?_;clear hK K
      refine wC fun X Y hX hY => ?_
      simp only [↓DN,UP,DF,Qa,Qb,Qc,Qd,Qe,Qf,Qg,Qh,reduceCtorEq,↓reduceIte,Na,Nb,Nc,Nk,Nf,Ng,Nh,Za,Zb,Zc,TT, DB]
      refine hX ?_;clear hX hY X Y
      refine wS fun K hK => ?_
      simp only [↓DN,UP,DF,Qa,Qb,Qc,Qd,Qe,Qf,Qg,Qh,reduceCtorEq,↓reduceIte,Na,Nb,Nc,Nk,Nf,Ng,Nh,Za,Zb,Zc,TT]
      refine acallk (haw _) ?_
      rintro r s3 ⟨rfl, rfl⟩
      simp only [↓AXq_nil,↓AXq_cons,pval,DX,Nat.reduceBEq,↓DN,UP,DF,Qa,Qb,Qc,Qd,Qe,Qf,Qg,Qh,reduceCtorEq,↓reduceIte,Na,Nb,Nc,Nk,Nf,Ng,Nh,Za,Zb,Zc,TT]
      refine hK _ _ ?_;clear hK K
      refine awp_ret ?_
      try simp only [thenQ, blockQ]
      simp only [retQ, AEnds, aresL, ares, List.toList_toArray, ↓upd_same]; try simp only [UP,DF,Nc,↓reduceIte,DT]
      exact ⟨_, _, AV.weak.refl _, AS.le.refl _, rfl⟩
  · rw [decide_eq_false h1] at hsm
    unfold bytesV at *
    refine wS fun K hK => ?_
    simp only [↓DN,UP,DF,Qa,Qb,Qc,Qd,Qe,Qf,Qg,Qh,reduceCtorEq,↓reduceIte,Na,Nb,Nc,Nk,Nf,Ng,Nh,Za,Zb,Zc,TT]
    refine hK _ _ ?_;clear hK K
    refine wK fun K hK => ?_
    refine wS fun K hK => ?_
    simp only [↓DN,UP,DF,Qa,Qb,Qc,Qd,Qe,Qf,Qg,Qh,reduceCtorEq,↓reduceIte,Na,Nb,Nc,Nk,Nf,Ng,Nh,Za,Zb,Zc,TT]
    refine acallk (haw _) ?_
    rintro r s1 ⟨rfl, rfl⟩
    simp only [↓AXq_nil,↓AXq_cons,pval,DX,Nat.reduceBEq,↓DN,UP,DF,Qa,Qb,Qc,Qd,Qe,Qf,Qg,Qh,reduceCtorEq,↓reduceIte,Na,Nb,Nc,Nk,Nf,Ng,Nh,Za,Zb,Zc,TT]
    refine acallk (hsm _) ?_
    rintro r s2 ⟨rfl, rfl⟩
    simp only [↓AXq_nil,↓AXq_cons,pval,DX,Nat.reduceBEq,↓DN,UP,DF,Qa,Qb,Qc,Qd,Qe,Qf,Qg,Qh,reduceCtorEq,↓reduceIte,Na,Nb,Nc,Nk,Nf,Ng,Nh,Za,Zb,Zc,TT]
    refine hK _ _ ?_;clear hK K
    refine wC fun X Y hX hY => ?_
    simp only [↓DN,UP,DF,Qa,Qb,Qc,Qd,Qe,Qf,Qg,Qh,reduceCtorEq,↓reduceIte,Na,Nb,Nc,Nk,Nf,Ng,Nh,Za,Zb,Zc,TT, DB]
    refine hX ?_;clear hX hY X Y
    refine wS fun K hK => ?_
    simp only [↓DN,UP,DF,Qa,Qb,Qc,Qd,Qe,Qf,Qg,Qh,reduceCtorEq,↓reduceIte,Na,Nb,Nc,Nk,Nf,Ng,Nh,Za,Zb,Zc,TT]
    refine acallk (haw _) ?_
    rintro r s3 ⟨rfl, rfl⟩
    simp only [↓AXq_nil,↓AXq_cons,pval,DX,Nat.reduceBEq,↓DN,UP,DF,Qa,Qb,Qc,Qd,Qe,Qf,Qg,Qh,reduceCtorEq,↓reduceIte,Na,Nb,Nc,Nk,Nf,Ng,Nh,Za,Zb,Zc,TT]
    refine hK _ _ ?_;clear hK K
    refine awp_ret ?_
    try simp only [thenQ, blockQ]
    simp only [retQ, AEnds, aresL, ares, List.toList_toArray, ↓upd_same]; try simp only [UP,DF,Nc,↓reduceIte,DT]
    exact ⟨_, _, AV.weak.refl _, AS.le.refl _, rfl⟩

end Go.Proofs.YtcnilmidfhpckaaGreatDoor


set_option autoImplicit false
namespace Go.Proofs.YtcnilmidfhpckaaGreatDoor
open Go Go.AM Go.Proofs



/-- The given tables, as cells. -/
def dB32 : List Nat := [0, 1, 28, 2, 29, 14, 24, 3, 30, 22, 20, 15, 25, 17, 4, 8, 31, 27, 13, 23, 21, 19, 16, 7, 26, 12, 18, 6, 11, 5, 10, 9]
def Γd (g : Nat) : List AV := if g = 2 then dB32.map u8C else if g = 3 then dB64.map u8C else []
abbrev laidD : List (String × DataW Unit) := [("math/bits.deBruijn32tab", Rows.laid_math_bits_deBruijn32tab), ("math/bits.deBruijn64tab", Rows.laid_math_bits_deBruijn64tab)]

theorem ints_of_trod {H : Type} {enc : TypeId × Value → H} {P : Program} {W : World} {base : Nat} {sp : Nat → Bool} {held : Bool} {fuel : Nat} {t e : TypeId} {n : Nat} {cs : List Value} {p : List MemPlace} {l : List Nat} {kd : IntKind}
    (hT : P.underlying t = some (.array n e)) (he : P.underlying e = some (.int kd)) (hc : P.cellsOf e = 1)
    (h : DataW.trod enc P W base sp held fuel t cs = some (.agg (l.map fun (x : Nat) => .lit (.int kd (x : Int))), p)) : ∀ (i x : Nat), l[i]? = some x → cs[i]? = some (.int kd (x : Int)) := by
  obtain ⟨xs, m, rfl, hx, hlen, hn, hel⟩ := DataW.trod_array hT h
  simp only [Prod.mk.injEq, DataW.agg.injEq] at hx
  intro i x hi
  have h1 : (l.map fun (x : Nat) => DataW.lit (H := H) (.int kd (x : Int)))[i]? = some (.lit (.int kd (x : Int))) := by rw [List.getElem?_map, hi]; rfl
  rw [hx.1, List.getElem?_map] at h1
  cases hy : xs[i]? with
  | none => rw [hy] at h1; cases h1
  | some y =>
    rw [hy] at h1
    simp only [Option.map_some, Option.some.injEq] at h1
    have hlt := (List.getElem?_eq_some_iff.1 hy).1
    have h2 := hel i (by omega)
    rw [hy, hc, Nat.mul_one] at h2
    obtain ⟨k, e1, e2, _⟩ := DataW.trod_int he h2
    rw [e2] at h1
    simp only [DataW.lit.injEq, Lit.int.injEq, true_and] at h1
    have h3 : (List.take 1 (List.drop i cs))[0]? = some (.int kd k) := by rw [e1]; rfl
    rw [List.getElem?_take, if_pos (by decide), List.getElem?_drop, Nat.add_zero, h1] at h3
    exact h3

theorem gB32 : Tryz.prog.globalNamed "math/bits.deBruijn32tab" = some 2 := by kernel_rfl
theorem gB64 : Tryz.prog.globalNamed "math/bits.deBruijn64tab" = some 3 := by kernel_rfl
theorem tB32 : (Tryz.prog.globals[2]?).map (·.type) = some 169 := by kernel_rfl
theorem tB64 : (Tryz.prog.globals[3]?).map (·.type) = some 170 := by kernel_rfl

theorem words_at {kd : IntKind} {W : World} {g : Nat} {cs : Array Value} {l : List Nat} (hc : ∀ i, W.cell? ⟨g, i, none⟩ = cs[i]?) (h : ∀ (i x : Nat), l[i]? = some x → cs.toList[i]? = some (.int kd (x : Int))) :
    ∃ vs, VRels (G0 W) (l.map fun (x : Nat) => .v (.int kd (x : Int))) vs ∧ RoAt (G0 W) g 0 vs := by
  refine ⟨l.map fun (x : Nat) => .int kd (x : Int), ?_, ?_⟩
  · have := VRels.vals (G := G0 W) (l.map fun (x : Nat) => Value.int kd (x : Int))
    rwa [List.map_map] at this
  · intro j u hu
    rw [List.getElem?_map] at hu
    cases hj : l[j]? with
    | none => rw [hj] at hu; cases hu
    | some x =>
      rw [hj] at hu
      simp only [Option.map_some, Option.some.injEq] at hu
      have := h j x hj
      show W.cell? ⟨g, 0 + j, none⟩ = some u
      rw [Nat.zero_add, hc j, ← hu]
      simpa using this

/-- What the condition gives the walks: the tables' cells. -/
theorem of_laid {W : World} (h : laidMetH Tryz.prog laidD W) : ∀ g, ∃ vs, VRels (G0 W) (Γd g) vs ∧ RoAt (G0 W) g 0 vs := by
  rw [MakeChecks.laidMetH_plain _ _ _ (by kernel_rfl)] at h
  obtain ⟨ps, ⟨g0, t0, cs0, f0, p0, q0, hg0, ht0, hv0, hd0, ⟨g1, t1, cs1, f1, p1, q1, hg1, ht1, hv1, hd1, _, _⟩, _⟩, _, _⟩ := h
  obtain rfl := Option.some.inj (gB32.symm.trans hg0)
  obtain rfl := Option.some.inj (gB64.symm.trans hg1)
  obtain rfl := Option.some.inj (tB32.symm.trans ht0)
  obtain rfl := Option.some.inj (tB64.symm.trans ht1)
  have h2 := words_at (World.var?_cell hg0 hv0) (ints_of_trod (l := dB32) Tryz.underlying169 Tryz.underlying5 T.c5 hd0)
  have h3 := words_at (World.var?_cell hg1 hv1) (ints_of_trod (l := dB64) Tryz.underlying170 Tryz.underlying5 T.c5 hd1)
  intro g
  by_cases e2 : g = 2
  · subst e2; exact h2
  · by_cases e3 : g = 3
    · subst e3; exact h3
    · refine ⟨[], ?_, fun j u h => by simp at h⟩
      simp [Γd, e2, e3, VRels]

/-- The door's own heap meets the condition. -/
theorem door_met (os : Os) (args : Array Value) : laidMetH Tryz.prog laidD ((World.doorLaid Tryz.prog 400 os).forCall (fun _ _ => 0) ⟨#[], args, []⟩).memory := by
  rw [MakeChecks.laidMetH_plain _ _ _ (by kernel_rfl)]
  exact laidMet_of_run' 8 (by kernel_rfl) (by kernel_rfl)

end Go.Proofs.YtcnilmidfhpckaaGreatDoor


set_option autoImplicit false
namespace Go.AM
open Go

/-- A row of nodes that comes in. -/
theorem IsTy.tree {avs : List AV} (h : IsTy (.slice 5 (.struct (.cons tyI (.cons tyB (.cons (.int .u64) (.cons tyB (.cons (.slice 1 tyI) .nil))))))) avs) : ∃ t : List NodeV, avs = [treeV t] ∧ ∀ n ∈ t, n.key < 2 ^ 64 := by
  obtain ⟨els, rfl, _, hall⟩ := IsTy.rows h
  have key : ∀ els : List (List AV), (∀ el ∈ els, el.length = 5 ∧ IsTy (.struct (.cons tyI (.cons tyB (.cons (.int .u64) (.cons tyB (.cons (.slice 1 tyI) .nil)))))) el) → ∃ t : List NodeV, els = t.map NodeV.cells ∧ ∀ n ∈ t, n.key < 2 ^ 64 := by
    intro els
    induction els with
    | nil => intro _; exact ⟨[], rfl, fun n hn => by cases hn⟩
    | cons e els ih =>
      intro h
      obtain ⟨t, rfl, h2⟩ := ih (fun el hel => h el (by simp [hel]))
      obtain ⟨_, h1⟩ := h e (by simp)
      obtain ⟨N, rfl, hN⟩ := IsTy.node h1
      refine ⟨N :: t, rfl, fun n hn => ?_⟩
      rcases List.mem_cons.1 hn with rfl | hn
      · exact hN
      · exact h2 n hn
  obtain ⟨t, rfl, h2⟩ := key els hall
  refine ⟨t, ?_, h2⟩
  unfold treeV rowC
  rw [List.length_map]

end Go.AM


set_option autoImplicit false
namespace Go.Proofs.YtcnilmidfhpckaaGreatDoor
/-! ### The words of the translation's head, read once -/
set_option maxRecDepth 100000
def signs : List Char := [Char.ofNat 104, Char.ofNat 97, Char.ofNat 114, Char.ofNat 110, Char.ofNat 101, Char.ofNat 115, Char.ofNat 115, Char.ofNat 32, Char.ofNat 55, Char.ofNat 55, Char.ofNat 102, Char.ofNat 57, Char.ofNat 51, Char.ofNat 51, Char.ofNat 55, Char.ofNat 99, Char.ofNat 51, Char.ofNat 54, Char.ofNat 97, Char.ofNat 101, Char.ofNat 51, Char.ofNat 101, Char.ofNat 49, Char.ofNat 56, Char.ofNat 57, Char.ofNat 57, Char.ofNat 98, Char.ofNat 49, Char.ofNat 50, Char.ofNat 48, Char.ofNat 98, Char.ofNat 53, Char.ofNat 55, Char.ofNat 57, Char.ofNat 52, Char.ofNat 49, Char.ofNat 55, Char.ofNat 52, Char.ofNat 53, Char.ofNat 48, Char.ofNat 51, Char.ofNat 102, Char.ofNat 98, Char.ofNat 99, Char.ofNat 97, Char.ofNat 98, Char.ofNat 53, Char.ofNat 51, Char.ofNat 48, Char.ofNat 53, Char.ofNat 50, Char.ofNat 50, Char.ofNat 55, Char.ofNat 48, Char.ofNat 48, Char.ofNat 54, Char.ofNat 98, Char.ofNat 55, Char.ofNat 97, Char.ofNat 51, Char.ofNat 48, Char.ofNat 52, Char.ofNat 101, Char.ofNat 54, Char.ofNat 55, Char.ofNat 54, Char.ofNat 54, Char.ofNat 49, Char.ofNat 99, Char.ofNat 52, Char.ofNat 56, Char.ofNat 54, Char.ofNat 32, Char.ofNat 99, Char.ofNat 117, Char.ofNat 116, Char.ofNat 32, Char.ofNat 97, Char.ofNat 116, Char.ofNat 32, Char.ofNat 101, Char.ofNat 110, Char.ofNat 103, Char.ofNat 114, Char.ofNat 111, Char.ofNat 115, Char.ofNat 115, Char.ofNat 101, Char.ofNat 114, Char.ofNat 47, Char.ofNat 101, Char.ofNat 110, Char.ofNat 103, Char.ofNat 114, Char.ofNat 111, Char.ofNat 115, Char.ofNat 115, Char.ofNat 101, Char.ofNat 114, Char.ofNat 108, Char.ofNat 97, Char.ofNat 119, Char.ofNat 50, Char.ofNat 48, Char.ofNat 46, Char.ofNat 82, Char.ofNat 97, Char.ofNat 116, Char.ofNat 99, Char.ofNat 104, Char.ofNat 101, Char.ofNat 116, Char.ofNat 82, Char.ofNat 101, Char.ofNat 97, Char.ofNat 100, Char.ofNat 115, Char.ofNat 32, Char.ofNat 101, Char.ofNat 110, Char.ofNat 103, Char.ofNat 114, Char.ofNat 111, Char.ofNat 115, Char.ofNat 115, Char.ofNat 101, Char.ofNat 114, Char.ofNat 47, Char.ofNat 101, Char.ofNat 110, Char.ofNat 103, Char.ofNat 114, Char.ofNat 111, Char.ofNat 115, Char.ofNat 115, Char.ofNat 101, Char.ofNat 114, Char.ofNat 108, Char.ofNat 97, Char.ofNat 119, Char.ofNat 50, Char.ofNat 48, Char.ofNat 46, Char.ofNat 82, Char.ofNat 97, Char.ofNat 116, Char.ofNat 99, Char.ofNat 104, Char.ofNat 101, Char.ofNat 116, Char.ofNat 65, Char.ofNat 99, Char.ofNat 116, Char.ofNat 115, Char.ofNat 32, Char.ofNat 101, Char.ofNat 110, Char.ofNat 103, Char.ofNat 114, Char.ofNat 111, Char.ofNat 115, Char.ofNat 115, Char.ofNat 101, Char.ofNat 114, Char.ofNat 47, Char.ofNat 101, Char.ofNat 110, Char.ofNat 103, Char.ofNat 114, Char.ofNat 111, Char.ofNat 115, Char.ofNat 115, Char.ofNat 101, Char.ofNat 114, Char.ofNat 108, Char.ofNat 97, Char.ofNat 119, Char.ofNat 50, Char.ofNat 48, Char.ofNat 46, Char.ofNat 82, Char.ofNat 97, Char.ofNat 116, Char.ofNat 99, Char.ofNat 104, Char.ofNat 101, Char.ofNat 116, Char.ofNat 82, Char.ofNat 111, Char.ofNat 119, Char.ofNat 115]
def headWords : List (List Char) := [[Char.ofNat 104, Char.ofNat 97, Char.ofNat 114, Char.ofNat 110, Char.ofNat 101, Char.ofNat 115, Char.ofNat 115],
  [Char.ofNat 55, Char.ofNat 55, Char.ofNat 102, Char.ofNat 57, Char.ofNat 51, Char.ofNat 51, Char.ofNat 55, Char.ofNat 99, Char.ofNat 51, Char.ofNat 54, Char.ofNat 97, Char.ofNat 101, Char.ofNat 51, Char.ofNat 101, Char.ofNat 49, Char.ofNat 56, Char.ofNat 57, Char.ofNat 57, Char.ofNat 98, Char.ofNat 49, Char.ofNat 50, Char.ofNat 48, Char.ofNat 98, Char.ofNat 53, Char.ofNat 55, Char.ofNat 57, Char.ofNat 52, Char.ofNat 49, Char.ofNat 55, Char.ofNat 52, Char.ofNat 53, Char.ofNat 48, Char.ofNat 51, Char.ofNat 102, Char.ofNat 98, Char.ofNat 99, Char.ofNat 97, Char.ofNat 98, Char.ofNat 53, Char.ofNat 51, Char.ofNat 48, Char.ofNat 53, Char.ofNat 50, Char.ofNat 50, Char.ofNat 55, Char.ofNat 48, Char.ofNat 48, Char.ofNat 54, Char.ofNat 98, Char.ofNat 55, Char.ofNat 97, Char.ofNat 51, Char.ofNat 48, Char.ofNat 52, Char.ofNat 101, Char.ofNat 54, Char.ofNat 55, Char.ofNat 54, Char.ofNat 54, Char.ofNat 49, Char.ofNat 99, Char.ofNat 52, Char.ofNat 56, Char.ofNat 54],
  [Char.ofNat 99, Char.ofNat 117, Char.ofNat 116],
  [Char.ofNat 97, Char.ofNat 116],
  [Char.ofNat 101, Char.ofNat 110, Char.ofNat 103, Char.ofNat 114, Char.ofNat 111, Char.ofNat 115, Char.ofNat 115, Char.ofNat 101, Char.ofNat 114, Char.ofNat 47, Char.ofNat 101, Char.ofNat 110, Char.ofNat 103, Char.ofNat 114, Char.ofNat 111, Char.ofNat 115, Char.ofNat 115, Char.ofNat 101, Char.ofNat 114, Char.ofNat 108, Char.ofNat 97, Char.ofNat 119, Char.ofNat 50, Char.ofNat 48, Char.ofNat 46, Char.ofNat 82, Char.ofNat 97, Char.ofNat 116, Char.ofNat 99, Char.ofNat 104, Char.ofNat 101, Char.ofNat 116, Char.ofNat 82, Char.ofNat 101, Char.ofNat 97, Char.ofNat 100, Char.ofNat 115],
  [Char.ofNat 101, Char.ofNat 110, Char.ofNat 103, Char.ofNat 114, Char.ofNat 111, Char.ofNat 115, Char.ofNat 115, Char.ofNat 101, Char.ofNat 114, Char.ofNat 47, Char.ofNat 101, Char.ofNat 110, Char.ofNat 103, Char.ofNat 114, Char.ofNat 111, Char.ofNat 115, Char.ofNat 115, Char.ofNat 101, Char.ofNat 114, Char.ofNat 108, Char.ofNat 97, Char.ofNat 119, Char.ofNat 50, Char.ofNat 48, Char.ofNat 46, Char.ofNat 82, Char.ofNat 97, Char.ofNat 116, Char.ofNat 99, Char.ofNat 104, Char.ofNat 101, Char.ofNat 116, Char.ofNat 65, Char.ofNat 99, Char.ofNat 116, Char.ofNat 115],
  [Char.ofNat 101, Char.ofNat 110, Char.ofNat 103, Char.ofNat 114, Char.ofNat 111, Char.ofNat 115, Char.ofNat 115, Char.ofNat 101, Char.ofNat 114, Char.ofNat 47, Char.ofNat 101, Char.ofNat 110, Char.ofNat 103, Char.ofNat 114, Char.ofNat 111, Char.ofNat 115, Char.ofNat 115, Char.ofNat 101, Char.ofNat 114, Char.ofNat 108, Char.ofNat 97, Char.ofNat 119, Char.ofNat 50, Char.ofNat 48, Char.ofNat 46, Char.ofNat 82, Char.ofNat 97, Char.ofNat 116, Char.ofNat 99, Char.ofNat 104, Char.ofNat 101, Char.ofNat 116, Char.ofNat 82, Char.ofNat 111, Char.ofNat 119, Char.ofNat 115]]
theorem initS : Tryz.prog.initOrder = String.ofList signs := by kernel_rfl
theorem words : wordsSigns Tryz.prog.initOrder.toList = headWords := by
  rw [initS, String.toList_ofList]
  kernel_rfl
theorem both {a b : Bool} (h : a = true) (k : b = true) : (a && b) = true := by rw [h, k]; rfl
theorem same_of {a b : Bool} (h : b = a) : (a == b) = true := by rw [h]; cases a <;> rfl
theorem make_of {a b : Option Make} (h : a = b) : (a == b) = true := by rw [h]; exact beq_self_eq_true _
theorem strip_cut (r : List (List Char)) : stripLifts liftWords ("cut".toList :: r) = ([], "cut".toList :: r) := by kernel_rfl
theorem lifts_cut {P : Program} {r} (h : behindMainWord (wordsSigns P.initOrder.toList) = "cut".toList :: r) : P.headLifts = [] := by
  unfold Program.headLifts
  rw [h, strip_cut]
  kernel_rfl
theorem make_cut {P : Program} {r} (h : behindMainWord (wordsSigns P.initOrder.toList) = "cut".toList :: r) : P.make = some .cut := by
  unfold Program.make
  rw [h, lifts_cut h]
  kernel_rfl
theorem final_cut {P : Program} {r} (h : behindMainWord (wordsSigns P.initOrder.toList) = "cut".toList :: r) : P.liftsFinal = false := by
  unfold Program.liftsFinal
  rw [h, lifts_cut h]
  kernel_rfl
theorem main_har {P : Program} {s r} (h : wordsSigns P.initOrder.toList = "harness".toList :: s :: r) (hs : isSumSigns s = true) : P.mainIs = some (true, s) := by
  unfold Program.mainIs
  rw [h]
  dsimp only
  rw [hs]
  kernel_rfl
theorem may_cut {P : Program} {r} (h : behindMainWord (wordsSigns P.initOrder.toList) = "cut".toList :: r) (hl : P.laysLater = false) (hr : P.bearsReflect = false) (hd : P.doorFits [] = true) : P.mayEnter = true := by
  unfold Program.mayEnter
  rw [h, hl, hr]
  dsimp only
  rw [strip_cut]
  dsimp only
  rw [hd]
  kernel_rfl
theorem behind : behindMainWord (wordsSigns Tryz.prog.initOrder.toList) = "cut".toList :: headWords.drop 3 := (congrArg behindMainWord words).trans (by kernel_rfl)
theorem headMake : Tryz.prog.make = some .cut := make_cut behind
theorem headMain : Tryz.prog.mainIs = some (true, "77f9337c36ae3e1899b120b5794174503fbcab5305227006b7a304e67661c486".toList) := main_har (r := headWords.drop 2) (words.trans (by kernel_rfl)) (by kernel_rfl)
theorem headMay : Tryz.prog.mayEnter = true := may_cut behind (by kernel_rfl) (by kernel_rfl) (by kernel_rfl)
theorem headFin : Tryz.prog.liftsFinal = false := final_cut behind
end Go.Proofs.YtcnilmidfhpckaaGreatDoor


