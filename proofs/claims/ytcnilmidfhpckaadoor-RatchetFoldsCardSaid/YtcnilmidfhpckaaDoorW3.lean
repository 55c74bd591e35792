/- Contracts of the program's functions, each walked once; the conditions stand in each theorem. -/
import Derived.Test.YtcnilmidfhpckaaDoorAMp6
import Derived.Test.YtcnilmidfhpckaaDoorW1
import Derived.Test.YtcnilmidfhpckaaDoorW2
import Derived.Test.YtcnilmidfhpckaaDoorAMp5
import Derived.Test.YtcnilmidfhpckaaDoorAMp7
import Derived.Shelf.Slices.SearchI
import Derived.Shelf.Slices.Empties
set_option linter.unusedSimpArgs false
set_option linter.unusedVariables false
open Nat renaming reduceLT → Na, reduceLeDiff → Nb, reduceEqDiff → Nc, reduceAdd → Nk, reduceMul → Nf, reducePow → Ng, reduceSub → Nh
open Int renaming reduceLT → Za, reduceLE → Zb, reduceToNat → Zc
open Go.AM renaming ashift → Qa, aconv → Qb, aindexAddr → Qc, aindex → Qd, aslice → Qe, abuiltin → Qf, awp_reg_seq → wS, awp_reg_end → wE, awp_seq_k → wK, awp_cond_k → wC
open Go.AM.AV renaming cells → Qg, one → Qh
set_option autoImplicit false
namespace Go.Proofs.YtcnilmidfhpckaaDoor
open Go Go.AM Go.Proofs


variable {Γ : Nat → List AV}

theorem named_none {t : List NodeV} {name : List UInt8} {a : Nat} : decide (0 ≤ namedI t name (a + 1)) = false ↔ ∀ j, j < hlf t → a < j → ¬ (memI t (j : Int) ∧ (nd t (2 * j)).name = name) := by
  have h := firstN_ge (fun (j : Nat) => decide (memI t (j : Int) ∧ (nd t (2 * j)).name = name)) (hlf t - (a + 1)) (a + 1)
  constructor
  · intro h1 j h2 h3 h4
    have : decide (0 ≤ namedI t name (a + 1)) = true := h.2 ⟨j, by omega, by omega, decide_eq_true h4⟩
    rw [h1] at this
    cases this
  · intro h1
    cases hd : decide (0 ≤ namedI t name (a + 1)) with
    | false => rfl
    | true =>
      obtain ⟨j, h2, h3, h4⟩ := h.1 hd
      exact absurd (of_decide_eq_true h4) (h1 j (by omega) (by omega))

set_option maxRecDepth 100000 in
set_option maxHeartbeats 8000000 in
theorem right20_calls (hG : Γ 1 = dB64.map u8C) (t : List NodeV) (ht : TreeW t) (s : AS) : ACalls Tryd.prog Γ 14 [treeV t] s (fun r s' => r = .v (.bool (decide (rightT t))) ∧ s' = s) := by
  refine acalls_body Tryd.func14 rfl Tryd.ntmps14 Tryd.results14 (by simp) ?_
  have htl := ht.1
  have hlc := fun s => leaves_calls (Γ := Γ) t htl s
  have hmc := fun i s => member_calls (Γ := Γ) t htl i s
  have hfc := fun i (h : i < t.length) s => fits20_calls (Γ := Γ) hG t ht i h s
  have hnc := fun name a (h : a ≤ 2 ^ 60) s => named20_calls (Γ := Γ) t htl name a h s
  have hcc := fun a k h s => members_calls (Γ := Γ) t htl a k h s
  have hat := fun i (h : i < t.length) => node_at (t := t) h
  have hlv := lvs_le t
  have h0len : lvs t ≠ 0 → t.length = 2 * lvs t - 1 := fun h => (lvs_zero_or.resolve_left h).2
  have hno0 : lvs t = 0 → decide (rightT t) = false := fun h => decide_eq_false fun k => k.1 h
  have hnoi : ∀ i, i < t.length → ¬ goodAt t i → decide (rightT t) = false := fun i h1 h2 => decide_eq_false fun k => h2 (k.2.1 i h1)
  have hfin : lvs t ≠ 0 → (∀ i, i < t.length → goodAt t i) → decide (rightT t) = (((lvs t : Int) == 1) || decide ((0 : Int) < (cntN (memI t) (lvs t / 2) (lvs t - lvs t / 2) : Int))) := by
    intro h1 h2
    rw [Bool.eq_iff_iff, decide_eq_true_iff, Bool.or_eq_true, beq_iff_eq, decide_eq_true_iff]
    constructor
    · rintro ⟨_, _, h3⟩
      exact h3.imp (fun q => by omega) (fun q => by omega)
    · intro h3
      exact ⟨h1, h2, h3.imp (fun q => by omega) (fun q => by omega)⟩
  unfold treeV at *
  generalize rowC NodeV.cells t = X at *
  generalize decide (rightT t) = RES at *
  refine wS fun K hK => ?_
  simp only [↓DN,UP,DF,Qa,Qb,Qc,Qd,Qe,Qf,Qg,Qh,reduceCtorEq,↓reduceIte,Na,Nb,Nc,Nk,Nf,Ng,Nh,Za,Zb,Zc,TT]
  refine hK _ _ ?_;clear hK K
  refine wS fun K hK => ?_
  simp only [↓DN,UP,DF,Qa,Qb,Qc,Qd,Qe,Qf,Qg,Qh,reduceCtorEq,↓reduceIte,Na,Nb,Nc,Nk,Nf,Ng,Nh,Za,Zb,Zc,TT]
  refine acallk (hlc _) ?_
  rintro r s1 ⟨rfl, rfl⟩
  simp only [↓AXq_nil,↓AXq_cons,pval,DX,Nat.reduceBEq,↓DN,UP,DF,Qa,Qb,Qc,Qd,Qe,Qf,Qg,Qh,reduceCtorEq,↓reduceIte,Na,Nb,Nc,Nk,Nf,Ng,Nh,Za,Zb,Zc,TT]
  refine hK _ _ ?_;clear hK K
  refine wK fun K hK => ?_
  refine wS fun K hK => ?_
  simp only [↓DN,UP,DF,Qa,Qb,Qc,Qd,Qe,Qf,Qg,Qh,reduceCtorEq,↓reduceIte,Na,Nb,Nc,Nk,Nf,Ng,Nh,Za,Zb,Zc,TT]
  refine hK _ _ ?_;clear hK K
  refine awp_block ?_
  refine awp_loop (fun E s2 => ∃ i : Nat, i ≤ t.length ∧ (0 < i → lvs t ≠ 0) ∧ (∀ j, j < i → goodAt t j) ∧ E 9 = .v (.int .i64 i) ∧ E 8 = .v (.int .i64 t.length) ∧ E 3 = .v (.int .i64 (lvs t)) ∧ E 0 = .sl 5 t.length X .any ∧ s2 = s1)
    (fun E _ => match E 9 with | .v (.int _ i) => t.length - i.toNat | _ => 0) ?_ ?_
  · exact ⟨0, Nat.zero_le _, fun h => absurd h (Nat.lt_irrefl _), fun j h => absurd h (Nat.not_lt_zero _), by simp only [upd, Nc, ↓reduceIte]; rfl, by simp only [upd, Nc, ↓reduceIte], by simp only [upd, Nc, ↓reduceIte], by simp only [upd, initE, List.getD_cons_zero, List.getD_cons_succ, Nc, ↓reduceIte], rfl⟩
  · rintro E1 s2 ⟨i, hi, hn0, hall, g9, g8, g3, g0, rfl⟩ -
    by_cases hi' : i < t.length
    · refine wS fun K hK => ?_
      simp only [↓DN,UP,DF,Qa,Qb,Qc,Qd,Qe,Qf,Qg,Qh,reduceCtorEq,↓reduceIte,Na,Nb,Nc,Nk,Nf,Ng,Nh,Za,Zb,Zc,TT, g9, g8, eye_lt_nat, decide_eq_true hi']
      refine hK _ _ ?_;clear hK K
      refine wK fun K2 hK2 => ?_
      refine wC fun X Y hX hY => ?_
      simp only [↓DN,UP,DF,Qa,Qb,Qc,Qd,Qe,Qf,Qg,Qh,reduceCtorEq,↓reduceIte,Na,Nb,Nc,Nk,Nf,Ng,Nh,Za,Zb,Zc,TT, DB]
      refine hX ?_;clear hX hY X Y
      refine awp_skip ?_
      refine hK2 _ _ ?_;clear hK2 K2
      refine wK fun K3 hK3 => ?_
      refine awp_block ?_
      refine wS fun K hK => ?_
      simp only [↓DN,UP,DF,Qa,Qb,Qc,Qd,Qe,Qf,Qg,Qh,reduceCtorEq,↓reduceIte,Na,Nb,Nc,Nk,Nf,Ng,Nh,Za,Zb,Zc,TT, g9]
      refine hK _ _ ?_;clear hK K
      by_cases hz : lvs t = 0
      · refine wS fun K hK => ?_
        simp only [↓DN,UP,DF,Qa,Qb,Qc,Qd,Qe,Qf,Qg,Qh,reduceCtorEq,↓reduceIte,Na,Nb,Nc,Nk,Nf,Ng,Nh,Za,Zb,Zc,TT, g3, nat0 hz]
        refine hK _ _ ?_;clear hK K
        refine wC fun X Y hX hY => ?_
        simp only [↓DN,UP,DF,Qa,Qb,Qc,Qd,Qe,Qf,Qg,Qh,reduceCtorEq,↓reduceIte,Na,Nb,Nc,Nk,Nf,Ng,Nh,Za,Zb,Zc,TT, DB]
        refine hX ?_;clear hX hY X Y
        refine wS fun K hK => ?_
        simp only [↓DN,UP,DF,Qa,Qb,Qc,Qd,Qe,Qf,Qg,Qh,reduceCtorEq,↓reduceIte,Na,Nb,Nc,Nk,Nf,Ng,Nh,Za,Zb,Zc,TT]
        refine hK _ _ ?_;clear hK K
        refine awp_ret ?_
        try simp only [thenQ, blockQ]
        simp only [retQ, AEnds, aresL, ares, List.toList_toArray, ↓upd_same]; try simp only [UP,DF,Nc,↓reduceIte,DT]
        rw [hno0 hz]
        exact ⟨_, _, AV.weak.refl _, AS.le.refl _, rfl, rfl⟩
      · have hgood : goodAt t i ↔ fitsT t i ∧ (i % 2 = 0 → memI t ((i / 2 : Nat) : Int) → decide (0 ≤ namedI t (nd t i).name (i / 2 + 1)) = false) := by
          unfold goodAt
          rw [named_none]
        have hlen := h0len hz
        have hat' := hat i hi'
        have hni := fun s => hnc (nd t i).name (i / 2 + 1) (by omega) s
        generalize hNI : namedI t (nd t i).name (i / 2 + 1) = NI at *
        generalize nd t i = N at *
        obtain ⟨nk, nm, ny, npa, nu⟩ := N
        unfold NodeV.cells at hat'
        simp only at hni
        have hge : (0 : Int) ≤ (i : Int) := by omega
        have hr2 : irem (i : Int) 2 = ((i % 2 : Nat) : Int) := irem_u i 2
        have hq2 : iquo .i64 (i : Int) 2 = ((i / 2 : Nat) : Int) := iquo_nat i (by omega)
        have hq3 : iadd .i64 ((i / 2 : Nat) : Int) 1 = ((i / 2 + 1 : Nat) : Int) := eye_succM _ (by omega)
        have hend : goodAt t i → ∀ (E : Env), E 9 = .v (.int .i64 i) → E 8 = .v (.int .i64 t.length) → E 3 = .v (.int .i64 (lvs t)) → E 0 = .sl 5 t.length X .any → K3 E s2 := by
          intro hg E f9 f8 f3 f0
          refine hK3 _ _ ?_;clear hK3 K3
          refine wE fun K hK => ?_
          simp only [↓DN,UP,DF,Qa,Qb,Qc,Qd,Qe,Qf,Qg,Qh,reduceCtorEq,↓reduceIte,Na,Nb,Nc,Nk,Nf,Ng,Nh,Za,Zb,Zc,TT, f9, eye_succM i (by omega)]
          refine hK _ _ ?_;clear hK K
          refine ⟨⟨i + 1, by omega, fun _ => hz, ?_, by simp only [upd, Nc, ↓reduceIte], by simp only [upd, f8, Nc, ↓reduceIte], by simp only [upd, f3, Nc, ↓reduceIte], by simp only [upd, f0, Nc, ↓reduceIte], rfl⟩, ?_⟩
          · intro j hj
            by_cases e : j = i
            · rw [e]; exact hg
            · exact hall j (by omega)
          · simp only [g9, upd, ↓reduceIte]
            omega
        clear hK3
        refine wS fun K hK => ?_
        simp only [↓DN,UP,DF,Qa,Qb,Qc,Qd,Qe,Qf,Qg,Qh,reduceCtorEq,↓reduceIte,Na,Nb,Nc,Nk,Nf,Ng,Nh,Za,Zb,Zc,TT, g3, nat0F hz, g0]
        refine acallk (hfc i hi' _) ?_
        rintro r s3 ⟨rfl, rfl⟩
        by_cases hf : fitsT t i
        · rw [decide_eq_true hf]
          by_cases hp : i % 2 = 0
          · have t2 : (irem (i : Int) 2 == 0) = true := by rw [hr2]; exact yesI (by omega)
            simp only [↓AXq_nil,↓AXq_cons,pval,DX,Nat.reduceBEq,↓DN,UP,DF,Qa,Qb,Qc,Qd,Qe,Qf,Qg,Qh,reduceCtorEq,↓reduceIte,Na,Nb,Nc,Nk,Nf,Ng,Nh,Za,Zb,Zc,TT, two0, t2, g0, hq2]
            refine acallk (hmc _ _) ?_
            rintro r s4 ⟨rfl, rfl⟩
            by_cases hm : memI t ((i / 2 : Nat) : Int)
            · rw [decide_eq_true hm]
              simp only [↓AXq_nil,↓AXq_cons,pval,DX,Nat.reduceBEq,↓DN,UP,DF,Qa,Qb,Qc,Qd,Qe,Qf,Qg,Qh,reduceCtorEq,↓reduceIte,Na,Nb,Nc,Nk,Nf,Ng,Nh,Za,Zb,Zc,TT, two0, g0, eye_lt_nat, hi', hge, hat', hq2, hq3]
              refine acallk (hni _) ?_
              rintro r s5 ⟨rfl, rfl⟩
              by_cases hn : 0 ≤ NI
              · have hbad : ¬ goodAt t i := fun k => by
                  have := (hgood.1 k).2 hp hm
                  exact absurd hn (of_decide_eq_false this)
                simp only [↓AXq_nil,↓AXq_cons,pval,DX,Nat.reduceBEq,↓DN,UP,DF,Qa,Qb,Qc,Qd,Qe,Qf,Qg,Qh,reduceCtorEq,↓reduceIte,Na,Nb,Nc,Nk,Nf,Ng,Nh,Za,Zb,Zc,TT, decide_eq_true hn]
                refine hK _ _ ?_;clear hK K
                refine wC fun X Y hX hY => ?_
                simp only [↓DN,UP,DF,Qa,Qb,Qc,Qd,Qe,Qf,Qg,Qh,reduceCtorEq,↓reduceIte,Na,Nb,Nc,Nk,Nf,Ng,Nh,Za,Zb,Zc,TT, DB]
                refine hX ?_;clear hX hY X Y
                refine wS fun K hK => ?_
                simp only [↓DN,UP,DF,Qa,Qb,Qc,Qd,Qe,Qf,Qg,Qh,reduceCtorEq,↓reduceIte,Na,Nb,Nc,Nk,Nf,Ng,Nh,Za,Zb,Zc,TT]
                refine hK _ _ ?_;clear hK K
                refine awp_ret ?_
                try simp only [thenQ, blockQ]
                simp only [retQ, AEnds, aresL, ares, List.toList_toArray, ↓upd_same]; try simp only [UP,DF,Nc,↓reduceIte,DT]
                rw [hnoi i hi' hbad]
                exact ⟨_, _, AV.weak.refl _, AS.le.refl _, rfl, rfl⟩
              · have hg : goodAt t i := hgood.2 ⟨hf, fun _ _ => decide_eq_false hn⟩
                simp only [↓AXq_nil,↓AXq_cons,pval,DX,Nat.reduceBEq,↓DN,UP,DF,Qa,Qb,Qc,Qd,Qe,Qf,Qg,Qh,reduceCtorEq,↓reduceIte,Na,Nb,Nc,Nk,Nf,Ng,Nh,Za,Zb,Zc,TT, decide_eq_false hn]
                refine hK _ _ ?_;clear hK K
                refine wC fun X Y hX hY => ?_
                simp only [↓DN,UP,DF,Qa,Qb,Qc,Qd,Qe,Qf,Qg,Qh,reduceCtorEq,↓reduceIte,Na,Nb,Nc,Nk,Nf,Ng,Nh,Za,Zb,Zc,TT, DB]
                refine hY ?_;clear hX hY X Y
                refine awp_skip ?_
                simp only [blockQ, thenQ, if_true, if_false]
                exact hend hg _ (by simp only [upd, g9, Nc, ↓reduceIte]) (by simp only [upd, g8, Nc, ↓reduceIte]) (by simp only [upd, g3, Nc, ↓reduceIte]) (by simp only [upd, g0, Nc, ↓reduceIte])
            · have hg : goodAt t i := hgood.2 ⟨hf, fun _ k => absurd k hm⟩
              rw [decide_eq_false hm]
              simp only [↓AXq_nil,↓AXq_cons,pval,DX,Nat.reduceBEq,↓DN,UP,DF,Qa,Qb,Qc,Qd,Qe,Qf,Qg,Qh,reduceCtorEq,↓reduceIte,Na,Nb,Nc,Nk,Nf,Ng,Nh,Za,Zb,Zc,TT]
              refine hK _ _ ?_;clear hK K
              refine wC fun X Y hX hY => ?_
              simp only [↓DN,UP,DF,Qa,Qb,Qc,Qd,Qe,Qf,Qg,Qh,reduceCtorEq,↓reduceIte,Na,Nb,Nc,Nk,Nf,Ng,Nh,Za,Zb,Zc,TT, DB]
              refine hY ?_;clear hX hY X Y
              refine awp_skip ?_
              simp only [blockQ, thenQ, if_true, if_false]
              exact hend hg _ (by simp only [upd, g9, Nc, ↓reduceIte]) (by simp only [upd, g8, Nc, ↓reduceIte]) (by simp only [upd, g3, Nc, ↓reduceIte]) (by simp only [upd, g0, Nc, ↓reduceIte])
          · have t2 : (irem (i : Int) 2 == 0) = false := by rw [hr2]; exact notI (by omega)
            have hg : goodAt t i := hgood.2 ⟨hf, fun k => absurd k hp⟩
            simp only [↓AXq_nil,↓AXq_cons,pval,DX,Nat.reduceBEq,↓DN,UP,DF,Qa,Qb,Qc,Qd,Qe,Qf,Qg,Qh,reduceCtorEq,↓reduceIte,Na,Nb,Nc,Nk,Nf,Ng,Nh,Za,Zb,Zc,TT, two0, t2]
            refine hK _ _ ?_;clear hK K
            refine wC fun X Y hX hY => ?_
            simp only [↓DN,UP,DF,Qa,Qb,Qc,Qd,Qe,Qf,Qg,Qh,reduceCtorEq,↓reduceIte,Na,Nb,Nc,Nk,Nf,Ng,Nh,Za,Zb,Zc,TT, DB]
            refine hY ?_;clear hX hY X Y
            refine awp_skip ?_
            simp only [blockQ, thenQ, if_true, if_false]
            exact hend hg _ (by simp only [upd, g9, Nc, ↓reduceIte]) (by simp only [upd, g8, Nc, ↓reduceIte]) (by simp only [upd, g3, Nc, ↓reduceIte]) (by simp only [upd, g0, Nc, ↓reduceIte])
        · have hbad : ¬ goodAt t i := fun k => hf k.1
          rw [decide_eq_false hf]
          simp only [↓AXq_nil,↓AXq_cons,pval,DX,Nat.reduceBEq,↓DN,UP,DF,Qa,Qb,Qc,Qd,Qe,Qf,Qg,Qh,reduceCtorEq,↓reduceIte,Na,Nb,Nc,Nk,Nf,Ng,Nh,Za,Zb,Zc,TT]
          refine hK _ _ ?_;clear hK K
          refine wC fun X Y hX hY => ?_
          simp only [↓DN,UP,DF,Qa,Qb,Qc,Qd,Qe,Qf,Qg,Qh,reduceCtorEq,↓reduceIte,Na,Nb,Nc,Nk,Nf,Ng,Nh,Za,Zb,Zc,TT, DB]
          refine hX ?_;clear hX hY X Y
          refine wS fun K hK => ?_
          simp only [↓DN,UP,DF,Qa,Qb,Qc,Qd,Qe,Qf,Qg,Qh,reduceCtorEq,↓reduceIte,Na,Nb,Nc,Nk,Nf,Ng,Nh,Za,Zb,Zc,TT]
          refine hK _ _ ?_;clear hK K
          refine awp_ret ?_
          try simp only [thenQ, blockQ]
          simp only [retQ, AEnds, aresL, ares, List.toList_toArray, ↓upd_same]; try simp only [UP,DF,Nc,↓reduceIte,DT]
          rw [hnoi i hi' hbad]
          exact ⟨_, _, AV.weak.refl _, AS.le.refl _, rfl, rfl⟩
    · refine wS fun K hK => ?_
      simp only [↓DN,UP,DF,Qa,Qb,Qc,Qd,Qe,Qf,Qg,Qh,reduceCtorEq,↓reduceIte,Na,Nb,Nc,Nk,Nf,Ng,Nh,Za,Zb,Zc,TT, g9, g8, eye_lt_nat, decide_eq_false hi']
      refine hK _ _ ?_;clear hK K
      refine wK fun K2 hK2 => ?_
      refine wC fun X Y hX hY => ?_
      simp only [↓DN,UP,DF,Qa,Qb,Qc,Qd,Qe,Qf,Qg,Qh,reduceCtorEq,↓reduceIte,Na,Nb,Nc,Nk,Nf,Ng,Nh,Za,Zb,Zc,TT, DB]
      refine hY ?_;clear hX hY X Y
      refine awp_exit ?_
      simp only [thenQ, blockQ, if_true]
      refine hK _ _ ?_;clear hK hK2 K2 K
      have hall' : ∀ j, j < t.length → goodAt t j := fun j h => hall j (by omega)
      by_cases hz : lvs t = 0
      · have hp : decide ((0 : Int) < ((lvs t : Nat) : Int)) = false := decide_eq_false (by omega)
        refine wS fun K hK => ?_
        simp only [↓DN,UP,DF,Qa,Qb,Qc,Qd,Qe,Qf,Qg,Qh,reduceCtorEq,↓reduceIte,Na,Nb,Nc,Nk,Nf,Ng,Nh,Za,Zb,Zc,TT, g3, notI (show ¬ ((lvs t : Nat) : Int) = 1 by omega), hp]
        refine hK _ _ ?_;clear hK K
        refine awp_ret ?_
        try simp only [thenQ, blockQ]
        simp only [retQ, AEnds, aresL, ares, List.toList_toArray, ↓upd_same]; try simp only [UP,DF,Nc,↓reduceIte,DT]
        rw [hno0 hz]
        exact ⟨_, _, AV.weak.refl _, AS.le.refl _, rfl, rfl⟩
      · have hp : decide ((0 : Int) < ((lvs t : Nat) : Int)) = true := decide_eq_true (by omega)
        have hres := hfin hz hall'
        by_cases h1 : lvs t = 1
        · have e1 := yesI (show ((lvs t : Nat) : Int) = 1 by omega)
          rw [e1] at hres
          refine wS fun K hK => ?_
          simp only [↓DN,UP,DF,Qa,Qb,Qc,Qd,Qe,Qf,Qg,Qh,reduceCtorEq,↓reduceIte,Na,Nb,Nc,Nk,Nf,Ng,Nh,Za,Zb,Zc,TT, g3, e1]
          refine hK _ _ ?_;clear hK K
          refine awp_ret ?_
          try simp only [thenQ, blockQ]
          simp only [retQ, AEnds, aresL, ares, List.toList_toArray, ↓upd_same]; try simp only [UP,DF,Nc,↓reduceIte,DT]
          rw [hres]
          exact ⟨_, _, AV.weak.refl _, AS.le.refl _, rfl, rfl⟩
        · have e1 := notI (show ¬ ((lvs t : Nat) : Int) = 1 by omega)
          rw [e1, Bool.false_or] at hres
          have e2 : iquo .i64 (lvs t : Int) 2 = ((lvs t / 2 : Nat) : Int) := iquo_nat _ (by omega)
          have e3 : isub .i64 (lvs t : Int) 1 = (((lvs t / 2 + (lvs t - lvs t / 2) : Nat)) : Int) - 1 := by rw [isub_i64 (by omega)]; omega
          have hcm := fun s => hcc (lvs t / 2) (lvs t - lvs t / 2) (by omega) s
          generalize (((lvs t / 2 + (lvs t - lvs t / 2) : Nat)) : Int) - 1 = LL at *
          refine wS fun K hK => ?_
          simp only [↓DN,UP,DF,Qa,Qb,Qc,Qd,Qe,Qf,Qg,Qh,reduceCtorEq,↓reduceIte,Na,Nb,Nc,Nk,Nf,Ng,Nh,Za,Zb,Zc,TT, g3, e1, hp, two0, e2, e3, g0]
          refine acallk (hcm _) ?_
          rintro r s3 ⟨rfl, rfl⟩
          simp only [↓AXq_nil,↓AXq_cons,pval,DX,Nat.reduceBEq,↓DN,UP,DF,Qa,Qb,Qc,Qd,Qe,Qf,Qg,Qh,reduceCtorEq,↓reduceIte,Na,Nb,Nc,Nk,Nf,Ng,Nh,Za,Zb,Zc,TT]
          refine hK _ _ ?_;clear hK K
          refine awp_ret ?_
          try simp only [thenQ, blockQ]
          simp only [retQ, AEnds, aresL, ares, List.toList_toArray, ↓upd_same]; try simp only [UP,DF,Nc,↓reduceIte,DT]
          rw [hres]
          exact ⟨_, _, AV.weak.refl _, AS.le.refl _, rfl, rfl⟩

end Go.Proofs.YtcnilmidfhpckaaDoor


set_option autoImplicit false
namespace Go.AM
open Go

theorem lvs_of {t : List NodeV} {n : Nat} (h : Fit n) (hl : t.length = 2 * n - 1) : lvs t = n := by
  have := h.le
  unfold lvs
  rw [show (t.length + 1) / 2 = n by omega]
  exact if_pos ⟨h, hl⟩
theorem fit_pow {j : Nat} (h : j ≤ 5) : Fit (2 ^ j) := (by decide : ∀ j ≤ 5, Fit (2 ^ j)) j h
end Go.AM


set_option autoImplicit false
namespace Go.Proofs.YtcnilmidfhpckaaDoor
open Go Go.AM Go.Proofs

variable {Γ : Nat → List AV}

/-! ### Clones -/
set_option maxHeartbeats 400000 in
theorem bytesClone_nil (s : AS) : ACalls Tryd.prog Γ 27 [nilS] s (fun r s' => r = bytesV [] .any ∧ s' = s) := by
  refine acalls_body Tryd.func27 rfl Tryd.ntmps27 Tryd.results27 (by simp) ?_
  unfold nilS
  refine wS fun K hK => ?_
  simp only [↓DN,UP,DF,Qa,Qb,Qc,Qd,Qe,Qf,Qg,Qh,reduceCtorEq,↓reduceIte,Na,Nb,Nc,Nk,Nf,Ng,Nh,Za,Zb,Zc,TT]
  refine hK _ _ ?_;clear hK K
  refine wK fun K hK => ?_
  refine wS fun K hK => ?_
  simp only [↓DN,UP,DF,Qa,Qb,Qc,Qd,Qe,Qf,Qg,Qh,reduceCtorEq,↓reduceIte,Na,Nb,Nc,Nk,Nf,Ng,Nh,Za,Zb,Zc,TT]
  refine hK _ _ ?_;clear hK K
  refine wC fun X Y hX hY => ?_
  simp only [↓DN,UP,DF,Qa,Qb,Qc,Qd,Qe,Qf,Qg,Qh,reduceCtorEq,↓reduceIte,Na,Nb,Nc,Nk,Nf,Ng,Nh,Za,Zb,Zc,TT, DB]
  refine hX ?_;clear hX hY X Y
  refine wS fun K hK => ?_
  simp only [↓DN,UP,DF,Qa,Qb,Qc,Qd,Qe,Qf,Qg,Qh,reduceCtorEq,↓reduceIte,Na,Nb,Nc,Nk,Nf,Ng,Nh,Za,Zb,Zc,TT]
  refine hK _ _ ?_;clear hK K
  refine awp_ret ?_
  simp only [retQ, AEnds, aresL, ares, List.toList_toArray, ↓upd_same]; try simp only [UP,DF,Nc,↓reduceIte,DT]
  exact ⟨_, _, AV.weak_nil, AS.le.refl _, rfl, rfl⟩

set_option maxHeartbeats 400000 in
theorem bytesClone_no (l : List UInt8) (s : AS) (hl : l.length ≤ 2 ^ 45) : ACalls Tryd.prog Γ 27 [bytesV l .no] s (fun r s' => r = bytesV l .any ∧ s' = s) := by
  refine acalls_body Tryd.func27 rfl Tryd.ntmps27 Tryd.results27 (by simp) ?_
  unfold bytesV
  refine wS fun K hK => ?_
  simp only [↓DN,UP,DF,Qa,Qb,Qc,Qd,Qe,Qf,Qg,Qh,reduceCtorEq,↓reduceIte,Na,Nb,Nc,Nk,Nf,Ng,Nh,Za,Zb,Zc,TT]
  refine hK _ _ ?_;clear hK K
  refine wK fun K hK => ?_
  refine wS fun K hK => ?_
  simp only [↓DN,UP,DF,Qa,Qb,Qc,Qd,Qe,Qf,Qg,Qh,reduceCtorEq,↓reduceIte,Na,Nb,Nc,Nk,Nf,Ng,Nh,Za,Zb,Zc,TT, Bool.false_eq_true, and_false]
  refine hK _ _ ?_;clear hK K
  refine wC fun X Y hX hY => ?_
  simp only [↓DN,UP,DF,Qa,Qb,Qc,Qd,Qe,Qf,Qg,Qh,reduceCtorEq,↓reduceIte,Na,Nb,Nc,Nk,Nf,Ng,Nh,Za,Zb,Zc,TT, DB]
  refine hY ?_;clear hX hY X Y
  refine awp_skip ?_
  refine hK _ _ ?_;clear hK K
  by_cases h0 : l.length = 0
  · have hl0 : l = [] := List.eq_nil_of_length_eq_zero h0
    subst hl0
    refine wS fun K hK => ?_
    simp only [↓DN,UP,DF,Qa,Qb,Qc,Qd,Qe,Qf,Qg,Qh,reduceCtorEq,↓reduceIte,Na,Nb,Nc,Nk,Nf,Ng,Nh,Za,Zb,Zc,TT]
    refine hK _ _ ?_;clear hK K
    refine awp_ret ?_
    simp only [retQ, AEnds, aresL, ares, List.toList_toArray, ↓upd_same]; try simp only [UP,DF,Nc,↓reduceIte,DT]
    exact ⟨_, s, AV.weak_any, AS.le.refl s, rfl, rfl⟩
  · refine wS fun K hK => ?_
    simp only [↓DN,UP,DF,Qa,Qb,Qc,Qd,Qe,Qf,Qg,Qh,reduceCtorEq,↓reduceIte,Na,Nb,Nc,Nk,Nf,Ng,Nh,Za,Zb,Zc,TT, h0]
    refine ⟨by omega, by omega, fun t ht => hK _ _ ?_⟩
    clear hK K
    refine awp_ret ?_
    simp only [retQ, AEnds, aresL, ares, List.toList_toArray, ↓upd_same]; try simp only [UP,DF,Nc,↓reduceIte,DT]
    exact ⟨_, s, AV.weak_any, AS.le_gain (AS.le.refl s) ht 0, rfl, rfl⟩

theorem bytesClone_calls (l : List UInt8) (s : AS) (hl : l.length ≤ 2 ^ 45) : ACalls Tryd.prog Γ 27 [bytesV l .any] s (fun r s' => r = bytesV l .any ∧ s' = s) :=
  ACalls.any (pre := []) (post := []) (fun e => by subst e; exact bytesClone_nil s) (bytesClone_no l s hl)

end Go.Proofs.YtcnilmidfhpckaaDoor


set_option autoImplicit false
namespace Go.AM
open Go

/-! ### Members -/
structure ListedV where
  leaf : Int
  name : List UInt8
  deriving DecidableEq
def ListedV.cells (x : ListedV) : List AV := [.v (.int .i64 x.leaf), bytesV x.name .any]
def listV (l : List ListedV) : AV := .sl 2 l.length (rowC ListedV.cells l) .any
def memL (t : List NodeV) : Nat → List ListedV
  | 0 => []
  | k + 1 => memL t k ++ if memI t (k : Int) then [⟨(k : Int), (nd t (2 * k)).name⟩] else []
theorem memL_len (t : List NodeV) : ∀ k, (memL t k).length ≤ k
  | 0 => Nat.le_refl _
  | k + 1 => by
    have := memL_len t k
    simp only [memL, List.length_append]
    split <;> simp <;> omega
def membersT (t : List NodeV) : List ListedV := if rightT t then memL t (lvs t) else []
theorem rightT.hlf {t : List NodeV} (h : rightT t) : hlf t = lvs t := by
  have h1 := (lvs_zero_or.resolve_left h.1)
  have := h1.1.le
  unfold Go.AM.hlf
  omega
theorem rightT.len {t : List NodeV} (h : rightT t) : t.length = 2 * lvs t - 1 ∧ Fit (lvs t) := by
  have h1 := (lvs_zero_or.resolve_left h.1)
  exact ⟨h1.2, h1.1⟩
theorem rightT.nodes {t : List NodeV} (h : rightT t) {n : NodeV} (hn : n ∈ t) : n.right := by
  obtain ⟨i, hi, rfl⟩ := List.getElem_of_mem hn
  have := (h.2.1 i hi).1.1
  rwa [nd_get hi] at this
theorem rightT.nd {t : List NodeV} (h : rightT t) (i : Nat) : (nd t i).right := by
  by_cases hi : i < t.length
  · exact (h.2.1 i hi).1.1
  · have : Go.AM.nd t i = NodeV.nought := by simp [Go.AM.nd, List.getD, show t.length ≤ i by omega]
    rw [this]; exact nought_right
theorem NodeV.right_name {n : NodeV} (h : n.right) : n.name.length ≤ 16 := by
  rcases node_kind h with hk | hk | hk
  · rw [(right_zero hk).1 h]; decide
  · exact ((right_one hk).1 h).2.1
  · rw [((right_two hk).1 h).1]; decide
end Go.AM


set_option autoImplicit false
namespace Go.Proofs.YtcnilmidfhpckaaDoor
open Go Go.AM Go.Proofs


variable {Γ : Nat → List AV}

theorem leaves20_calls (hG : Γ 1 = dB64.map u8C) (t : List NodeV) (ht : TreeW t) (s : AS) : ACalls Tryd.prog Γ 11 [treeV t] s (fun r s' => r = .v (.int .i64 (if rightT t then lvs t else 0 : Nat)) ∧ s' = s) := by
  refine acalls_body Tryd.func11 rfl Tryd.ntmps11 Tryd.results11 (by simp) ?_
  have hr := fun s => right20_calls (Γ := Γ) hG t ht s
  have hl := fun s => leaves_calls (Γ := Γ) t ht.1 s
  unfold treeV at *
  generalize rowC NodeV.cells t = X at *
  refine wS fun K hK => ?_
  simp only [↓DN,UP,DF,Qa,Qb,Qc,Qd,Qe,Qf,Qg,Qh,reduceCtorEq,↓reduceIte,Na,Nb,Nc,Nk,Nf,Ng,Nh,Za,Zb,Zc,TT]
  refine hK _ _ ?_;clear hK K
  refine wK fun K hK => ?_
  refine wS fun K hK => ?_
  simp only [↓DN,UP,DF,Qa,Qb,Qc,Qd,Qe,Qf,Qg,Qh,reduceCtorEq,↓reduceIte,Na,Nb,Nc,Nk,Nf,Ng,Nh,Za,Zb,Zc,TT]
  refine acallk (hr _) ?_
  rintro r s1 ⟨rfl, rfl⟩
  by_cases h : rightT t
  · rw [decide_eq_true h]
    simp only [↓AXq_nil,↓AXq_cons,pval,DX,Nat.reduceBEq,↓DN,UP,DF,Qa,Qb,Qc,Qd,Qe,Qf,Qg,Qh,reduceCtorEq,↓reduceIte,Na,Nb,Nc,Nk,Nf,Ng,Nh,Za,Zb,Zc,TT]
    refine hK _ _ ?_;clear hK K
    refine wC fun X Y hX hY => ?_
    simp only [↓DN,UP,DF,Qa,Qb,Qc,Qd,Qe,Qf,Qg,Qh,reduceCtorEq,↓reduceIte,Na,Nb,Nc,Nk,Nf,Ng,Nh,Za,Zb,Zc,TT, DB]
    refine hY ?_;clear hX hY X Y
    refine awp_skip ?_
    refine hK _ _ ?_;clear hK K
    refine wS fun K hK => ?_
    simp only [↓DN,UP,DF,Qa,Qb,Qc,Qd,Qe,Qf,Qg,Qh,reduceCtorEq,↓reduceIte,Na,Nb,Nc,Nk,Nf,Ng,Nh,Za,Zb,Zc,TT]
    refine acallk (hl _) ?_
    rintro r s2 ⟨rfl, rfl⟩
    simp only [↓AXq_nil,↓AXq_cons,pval,DX,Nat.reduceBEq,↓DN,UP,DF,Qa,Qb,Qc,Qd,Qe,Qf,Qg,Qh,reduceCtorEq,↓reduceIte,Na,Nb,Nc,Nk,Nf,Ng,Nh,Za,Zb,Zc,TT]
    refine hK _ _ ?_;clear hK K
    refine awp_ret ?_
    try simp only [thenQ, blockQ]
    simp only [retQ, AEnds, aresL, ares, List.toList_toArray, ↓upd_same]; try simp only [UP,DF,Nc,↓reduceIte,DT]
    rw [if_pos h]
    exact ⟨_, _, AV.weak.refl _, AS.le.refl _, rfl, rfl⟩
  · rw [decide_eq_false h]
    simp only [↓AXq_nil,↓AXq_cons,pval,DX,Nat.reduceBEq,↓DN,UP,DF,Qa,Qb,Qc,Qd,Qe,Qf,Qg,Qh,reduceCtorEq,↓reduceIte,Na,Nb,Nc,Nk,Nf,Ng,Nh,Za,Zb,Zc,TT]
    refine hK _ _ ?_;clear hK K
    refine wC fun X Y hX hY => ?_
    simp only [↓DN,UP,DF,Qa,Qb,Qc,Qd,Qe,Qf,Qg,Qh,reduceCtorEq,↓reduceIte,Na,Nb,Nc,Nk,Nf,Ng,Nh,Za,Zb,Zc,TT, DB]
    refine hX ?_;clear hX hY X Y
    refine wS fun K hK => ?_
    simp only [↓DN,UP,DF,Qa,Qb,Qc,Qd,Qe,Qf,Qg,Qh,reduceCtorEq,↓reduceIte,Na,Nb,Nc,Nk,Nf,Ng,Nh,Za,Zb,Zc,TT]
    refine hK _ _ ?_;clear hK K
    refine awp_ret ?_
    try simp only [thenQ, blockQ]
    simp only [retQ, AEnds, aresL, ares, List.toList_toArray, ↓upd_same]; try simp only [UP,DF,Nc,↓reduceIte,DT]
    rw [if_neg h]
    exact ⟨_, _, AV.weak.refl _, AS.le.refl _, rfl, rfl⟩

theorem zrow_duo (a b : AV) : zrow 2 [a, b] = [a, b] := rfl
set_option maxRecDepth 100000 in
set_option maxHeartbeats 4000000 in
theorem members20_calls (hG : Γ 1 = dB64.map u8C) (t : List NodeV) (ht : TreeW t) (s : AS) : ACalls Tryd.prog Γ 10 [treeV t] s (fun r s' => r = listV (membersT t) ∧ s' = s) := by
  refine acalls_body Tryd.func10 rfl Tryd.ntmps10 Tryd.results10 (by simp) ?_
  have hl := fun s => leaves20_calls (Γ := Γ) hG t ht s
  have hm := fun i s => member_calls (Γ := Γ) t ht.1 i s
  have hat := fun i (h : i < t.length) => node_at (t := t) h
  have hlv := lvs_le t
  obtain ⟨M, hM⟩ : ∃ M, M = (if rightT t then lvs t else 0) := ⟨_, rfl⟩
  have hML : membersT t = memL t M := by
    rw [hM]; unfold membersT; split
    · rfl
    · rfl
  have hMle : M ≤ 32 := by rw [hM]; split <;> omega
  have hMi : ∀ i, i < M → 2 * i < t.length ∧ (nd t (2 * i)).name.length ≤ 16 := by
    intro i hi
    rw [hM] at hi
    split at hi
    · rename_i hr
      have := hr.len
      exact ⟨by omega, NodeV.right_name (hr.nd _)⟩
    · omega
  rw [← hM] at hl
  rw [hML]
  clear hM hML
  unfold treeV at *
  generalize rowC NodeV.cells t = X at *
  refine wS fun K hK => ?_
  simp only [↓DN,UP,DF,Qa,Qb,Qc,Qd,Qe,Qf,Qg,Qh,reduceCtorEq,↓reduceIte,Na,Nb,Nc,Nk,Nf,Ng,Nh,Za,Zb,Zc,TT]
  refine hK _ _ ?_;clear hK K
  refine wS fun K hK => ?_
  simp only [↓DN,UP,DF,Qa,Qb,Qc,Qd,Qe,Qf,Qg,Qh,reduceCtorEq,↓reduceIte,Na,Nb,Nc,Nk,Nf,Ng,Nh,Za,Zb,Zc,TT]
  refine hK _ _ ?_;clear hK K
  refine wK fun K hK => ?_
  refine wS fun K hK => ?_
  simp only [↓DN,UP,DF,Qa,Qb,Qc,Qd,Qe,Qf,Qg,Qh,reduceCtorEq,↓reduceIte,Na,Nb,Nc,Nk,Nf,Ng,Nh,Za,Zb,Zc,TT]
  refine acallk (hl _) ?_
  rintro r s1 ⟨rfl, rfl⟩
  simp only [↓AXq_nil,↓AXq_cons,pval,DX,Nat.reduceBEq,↓DN,UP,DF,Qa,Qb,Qc,Qd,Qe,Qf,Qg,Qh,reduceCtorEq,↓reduceIte,Na,Nb,Nc,Nk,Nf,Ng,Nh,Za,Zb,Zc,TT]
  refine hK _ _ ?_;clear hK K
  refine awp_block ?_
  refine awp_loop (fun E s2 => ∃ (i : Nat) (x : AV), i ≤ M ∧ E 7 = .v (.int .i64 i) ∧ E 6 = .v (.int .i64 M) ∧ E 0 = .sl 5 t.length X .any ∧ E 3 = x ∧ RBuf 2 s1 s2 x (memL t i).length (rowC ListedV.cells (memL t i)) ∧ s1.le s2)
    (fun E _ => match E 7 with | .v (.int _ i) => M - i.toNat | _ => 0) ?_ ?_
  · exact ⟨0, _, Nat.zero_le _, by simp only [upd, Nc, ↓reduceIte]; rfl, by simp only [upd, Nc, ↓reduceIte], by simp only [upd, initE, List.getD_cons_zero, List.getD_cons_succ, Nc, ↓reduceIte], by simp only [upd, Nc, ↓reduceIte]; rfl, RBuf.nil _ _ _, AS.le.refl _⟩
  · rintro E1 s2 ⟨i, x, hi, g7, g6, g0, g3, hx, hle⟩ -
    by_cases hi' : i < M
    · refine wS fun K hK => ?_
      simp only [↓DN,UP,DF,Qa,Qb,Qc,Qd,Qe,Qf,Qg,Qh,reduceCtorEq,↓reduceIte,Na,Nb,Nc,Nk,Nf,Ng,Nh,Za,Zb,Zc,TT, g7, g6, eye_lt_nat, decide_eq_true hi']
      refine hK _ _ ?_;clear hK K
      refine wK fun K2 hK2 => ?_
      refine wC fun X Y hX hY => ?_
      simp only [↓DN,UP,DF,Qa,Qb,Qc,Qd,Qe,Qf,Qg,Qh,reduceCtorEq,↓reduceIte,Na,Nb,Nc,Nk,Nf,Ng,Nh,Za,Zb,Zc,TT, DB]
      refine hX ?_;clear hX hY X Y
      refine awp_skip ?_
      refine hK2 _ _ ?_;clear hK2 K2
      refine wK fun K3 hK3 => ?_
      refine awp_block ?_
      refine wS fun K hK => ?_
      simp only [↓DN,UP,DF,Qa,Qb,Qc,Qd,Qe,Qf,Qg,Qh,reduceCtorEq,↓reduceIte,Na,Nb,Nc,Nk,Nf,Ng,Nh,Za,Zb,Zc,TT, g7]
      refine hK _ _ ?_;clear hK K
      have hstep : memL t (i + 1) = memL t i ++ if memI t (i : Int) then [⟨(i : Int), (nd t (2 * i)).name⟩] else [] := rfl
      have hll := memL_len t i
      obtain ⟨h2i, hnl⟩ := hMi i hi'
      have hat' := hat (2 * i) h2i
      generalize nd t (2 * i) = N at *
      obtain ⟨nk, nm, ny, npa, nu⟩ := N
      unfold NodeV.cells at hat'
      simp only at hstep hnl
      have hge : (0 : Int) ≤ ((2 * i : Nat) : Int) := by omega
      have hend : ∀ (E : Env) (s3 : AS) (x3 : AV), E 7 = .v (.int .i64 i) → E 6 = .v (.int .i64 M) → E 0 = .sl 5 t.length X .any → E 3 = x3 → RBuf 2 s1 s3 x3 (memL t (i + 1)).length (rowC ListedV.cells (memL t (i + 1))) → s1.le s3 → K3 E s3 := by
        intro E s3 x3 f7 f6 f0 f3 fx fle
        refine hK3 _ _ ?_;clear hK3 K3
        refine wE fun K hK => ?_
        simp only [↓DN,UP,DF,Qa,Qb,Qc,Qd,Qe,Qf,Qg,Qh,reduceCtorEq,↓reduceIte,Na,Nb,Nc,Nk,Nf,Ng,Nh,Za,Zb,Zc,TT, f7, eye_succM i (by omega)]
        refine hK _ _ ?_;clear hK K
        refine ⟨⟨i + 1, x3, by omega, by simp only [upd, Nc, ↓reduceIte], by simp only [upd, f6, Nc, ↓reduceIte], by simp only [upd, f0, Nc, ↓reduceIte], by simp only [upd, f3, Nc, ↓reduceIte], fx, fle⟩, ?_⟩
        simp only [g7, upd, ↓reduceIte]
        omega
      clear hK3
      generalize memL t i = L at *
      generalize memL t (i + 1) = L1 at *
      refine wS fun K hK => ?_
      simp only [↓DN,UP,DF,Qa,Qb,Qc,Qd,Qe,Qf,Qg,Qh,reduceCtorEq,↓reduceIte,Na,Nb,Nc,Nk,Nf,Ng,Nh,Za,Zb,Zc,TT, g0]
      refine acallk (hm _ _) ?_
      rintro r s3 ⟨rfl, rfl⟩
      by_cases hp : memI t (i : Int)
      · rw [if_pos hp] at hstep
        rw [decide_eq_true hp]
        simp only [↓AXq_nil,↓AXq_cons,pval,DX,Nat.reduceBEq,↓DN,UP,DF,Qa,Qb,Qc,Qd,Qe,Qf,Qg,Qh,reduceCtorEq,↓reduceIte,Na,Nb,Nc,Nk,Nf,Ng,Nh,Za,Zb,Zc,TT]
        refine hK _ _ ?_;clear hK K
        refine wC fun X Y hX hY => ?_
        simp only [↓DN,UP,DF,Qa,Qb,Qc,Qd,Qe,Qf,Qg,Qh,reduceCtorEq,↓reduceIte,Na,Nb,Nc,Nk,Nf,Ng,Nh,Za,Zb,Zc,TT, DB]
        refine hX ?_;clear hX hY X Y
        have hsn : rowC ListedV.cells L1 = rowC ListedV.cells L ++ [.v (.int .i64 (i : Int)), .sl 1 nm.length (nm.map byteV) .any] := by rw [hstep]; exact row_snoc _ _
        have hln : L1.length = L.length + 1 := by rw [hstep]; simp
        rw [hsn, hln] at hend
        rcases hx with ⟨rfl, hi0, hL0⟩ | ⟨t', e, rfl, ht', ht0⟩
        · refine wE fun K hK => ?_
          simp only [↓DN,UP,DF,Qa,Qb,Qc,Qd,Qe,Qf,Qg,Qh,reduceCtorEq,↓reduceIte,Na,Nb,Nc,Nk,Nf,Ng,Nh,Za,Zb,Zc,TT, g0, g3, imul2_nat i (by omega), eye_lt_nat, h2i, hge, hat', nilS]
          refine acallk (bytesClone_calls nm _ (by omega)) ?_
          rintro r s4 ⟨rfl, rfl⟩
          simp only [↓AXq_nil,↓AXq_cons,pval,DX,Nat.reduceBEq,↓DN,UP,DF,Qa,Qb,Qc,Qd,Qe,Qf,Qg,Qh,reduceCtorEq,↓reduceIte,Na,Nb,Nc,Nk,Nf,Ng,Nh,Za,Zb,Zc,TT, zrow_duo]
          intro t' ht'
          rw [hi0, hL0] at hend
          refine hK _ _ ?_
          simp only [blockQ, thenQ, if_true, if_false]
          refine hend _ _ (.sl 2 1 [.v (.int .i64 (i : Int)), .sl 1 nm.length (nm.map byteV) .any] (.own t' 0)) (by simp only [upd, g7, Nc, ↓reduceIte]) (by simp only [upd, g6, Nc, ↓reduceIte]) (by simp only [upd, g0, Nc, ↓reduceIte]) (by simp only [upd, Nc, ↓reduceIte]) (.inr ⟨t', 0, rfl, by simp [AS.gain], own_none_le hle ht'⟩) (AS.le_gain hle (own_none_le hle ht') 0)
        · refine wE fun K hK => ?_
          simp only [↓DN,UP,DF,Qa,Qb,Qc,Qd,Qe,Qf,Qg,Qh,reduceCtorEq,↓reduceIte,Na,Nb,Nc,Nk,Nf,Ng,Nh,Za,Zb,Zc,TT, g0, g3, imul2_nat i (by omega), eye_lt_nat, h2i, hge, hat']
          refine acallk (bytesClone_calls nm _ (by omega)) ?_
          rintro r s4 ⟨rfl, rfl⟩
          simp only [↓AXq_nil,↓AXq_cons,pval,DX,Nat.reduceBEq,↓DN,UP,DF,Qa,Qb,Qc,Qd,Qe,Qf,Qg,Qh,reduceCtorEq,↓reduceIte,Na,Nb,Nc,Nk,Nf,Ng,Nh,Za,Zb,Zc,TT, zrow_duo, ht']
          refine ⟨by omega, by omega, hK _ _ ?_⟩
          simp only [blockQ, thenQ, if_true, if_false]
          refine hend _ _ (.sl 2 (L.length + 1) (rowC ListedV.cells L ++ [.v (.int .i64 (i : Int)), .sl 1 nm.length (nm.map byteV) .any]) (.own t' (e + 1))) (by simp only [upd, g7, Nc, ↓reduceIte]) (by simp only [upd, g6, Nc, ↓reduceIte]) (by simp only [upd, g0, Nc, ↓reduceIte]) (by simp only [upd, Nc, ↓reduceIte]) (.inr ⟨t', e + 1, rfl, by simp [AS.gain], ht0⟩) (AS.le_gain hle ht0 (e + 1))
      · rw [if_neg hp, List.append_nil] at hstep
        rw [decide_eq_false hp]
        simp only [↓AXq_nil,↓AXq_cons,pval,DX,Nat.reduceBEq,↓DN,UP,DF,Qa,Qb,Qc,Qd,Qe,Qf,Qg,Qh,reduceCtorEq,↓reduceIte,Na,Nb,Nc,Nk,Nf,Ng,Nh,Za,Zb,Zc,TT]
        refine hK _ _ ?_;clear hK K
        refine wC fun X Y hX hY => ?_
        simp only [↓DN,UP,DF,Qa,Qb,Qc,Qd,Qe,Qf,Qg,Qh,reduceCtorEq,↓reduceIte,Na,Nb,Nc,Nk,Nf,Ng,Nh,Za,Zb,Zc,TT, DB]
        refine hY ?_;clear hX hY X Y
        refine awp_skip ?_
        simp only [blockQ, thenQ, if_true, if_false]
        rw [hstep] at hend
        exact hend _ _ _ (by simp only [upd, g7, Nc, ↓reduceIte]) (by simp only [upd, g6, Nc, ↓reduceIte]) (by simp only [upd, g0, Nc, ↓reduceIte]) (by simp only [upd, g3, Nc, ↓reduceIte]) hx hle
    · refine wS fun K hK => ?_
      simp only [↓DN,UP,DF,Qa,Qb,Qc,Qd,Qe,Qf,Qg,Qh,reduceCtorEq,↓reduceIte,Na,Nb,Nc,Nk,Nf,Ng,Nh,Za,Zb,Zc,TT, g7, g6, eye_lt_nat, decide_eq_false hi']
      refine hK _ _ ?_;clear hK K
      refine wK fun K2 hK2 => ?_
      refine wC fun X Y hX hY => ?_
      simp only [↓DN,UP,DF,Qa,Qb,Qc,Qd,Qe,Qf,Qg,Qh,reduceCtorEq,↓reduceIte,Na,Nb,Nc,Nk,Nf,Ng,Nh,Za,Zb,Zc,TT, DB]
      refine hY ?_;clear hX hY X Y
      refine awp_exit ?_
      simp only [thenQ, blockQ, if_true]
      refine hK _ _ ?_;clear hK hK2 K2 K
      obtain rfl : i = M := by omega
      have hw := hx.weak
      refine wS fun K hK => ?_
      simp only [↓DN,UP,DF,Qa,Qb,Qc,Qd,Qe,Qf,Qg,Qh,reduceCtorEq,↓reduceIte,Na,Nb,Nc,Nk,Nf,Ng,Nh,Za,Zb,Zc,TT, g3]
      refine hK _ _ ?_;clear hK K
      refine awp_ret ?_
      try simp only [thenQ, blockQ]
      simp only [retQ, AEnds, aresL, ares, List.toList_toArray, ↓upd_same]; try simp only [UP,DF,Nc,↓reduceIte,DT]
      exact ⟨_, _, hw, hle, rfl, rfl⟩

end Go.Proofs.YtcnilmidfhpckaaDoor


set_option autoImplicit false
namespace Go.Proofs.YtcnilmidfhpckaaDoor
open Go Go.AM Go.Proofs



variable {Γ : Nat → List AV}



def RES (s0 : AS) (k : Nat) (cs : List AV) (L : List Int) (r : AV) (s' : AS) : Prop := RBuf 1 s0 s' r (k + L.length) (cs ++ L.map intC) ∧ s0.le s'

end Go.Proofs.YtcnilmidfhpckaaDoor


set_option autoImplicit false
namespace Go.AM
open Go Go.RowKit Go.Shelf Go.Proofs

variable {P : Program} {Γ : Nat → List AV} {G : Gh} {s : AS} {w : World} {N : Nat}

def intW (i : Int) : Value := .int .i64 i
theorem VRels.ints {G : Gh} (l : List Int) : VRels G (l.map intC) (l.map intW) := by
  induction l with
  | nil => simp [VRels]
  | cons i l ih => simp only [List.map_cons, VRels]; exact ⟨intW i, _, rfl, by simp [intC, intW, VRel], ih⟩
theorem VRels.ints_eq {G : Gh} : ∀ {l : List Int} {vs : List Value}, VRels G (l.map intC) vs → vs = l.map intW
  | [], vs, h => by simpa [VRels] using h
  | i :: l, vs, h => by
    simp only [List.map_cons, VRels] at h
    obtain ⟨u, us, rfl, h1, h2⟩ := h
    rw [VRels.ints_eq h2]
    simp only [intC, VRel] at h1
    rw [h1]
    rfl
theorem one_ints (l : List Int) : ∀ v ∈ l.map intW, v.oneCell' = true := by
  intro v hv
  obtain ⟨i, _, rfl⟩ := List.mem_map.1 hv
  rfl

theorem insert_cells (A B : List AV) (b0 x r0 : AV) (rest : List AV) : asetAll (asetAll (A ++ b0 :: B ++ r0 :: rest) (A.length + 1) (b0 :: B)) A.length [x] = A ++ x :: b0 :: B ++ rest := by
  have h1 := asetAll_mid (b0 :: B) (A ++ [b0]) (B ++ r0 :: rest) (by simp)
  have e1 : A ++ b0 :: B ++ r0 :: rest = (A ++ [b0]) ++ (B ++ r0 :: rest) := by simp
  rw [List.length_append, List.length_singleton] at h1
  rw [e1, h1]
  have e2 : (B ++ r0 :: rest).drop (b0 :: B).length = rest := by
    rw [List.length_cons, List.drop_append, List.drop_eq_nil_of_le (by omega), List.nil_append, Nat.add_sub_cancel_left]
    rfl
  rw [e2]
  have h2 := asetAll_mid [x] A (b0 :: (b0 :: B) ++ rest) (by simp)
  have e3 : A ++ [b0] ++ b0 :: B ++ rest = A ++ (b0 :: (b0 :: B) ++ rest) := by simp
  rw [e3, h2]
  simp


/-- slices.Insert of one number into an object's beginning; the row of that number lies in the newest block. -/
theorem insert_res {ρ : Ren} (L : Lays2.n21 P ρ) {x : AV} {u : Value} {l : List Int} {i : Nat} (at' : Int) {e : TypeId} {w0 : World} (hb : OBuf 1 s x l.length (l.map intC)) (hi : i ≤ l.length) (hn : l.length ≤ 2 ^ 40)
    (hs : SRel Γ G s (w0.alloc (.cells #[intW at'] e))) (hxr : VRel G x u) (hold : ∀ o b, G.obj o = some b → b < w0.heap.size) :
    Calls P (ρ.f 21) #[u, .int .i64 i, .slice (some ⟨w0.heap.size, 0, none⟩) 1 1] (w0.alloc (.cells #[intW at'] e)) (fun e w' => ∃ G' r v s', e = .returned v ∧ G.le G' ∧ SRel Γ G' s' w' ∧ VRel G' r v ∧
      ∃ o cap rest, r = .osl o 0 1 (l.length + 1) cap ∧ l.length + 1 ≤ cap ∧ cap < 2 ^ 63 ∧ rest.length = cap - (l.length + 1) ∧ (s.objs o = none ∨ ∃ cap0, x = .osl o 0 1 l.length cap0) ∧ s' = s.set o ((l.take i ++ at' :: l.drop i).map intC ++ rest)) := by
  generalize hw : w0.alloc (.cells #[intW at'] e) = w at *
  have hvs : ∀ (j : Nat) (v : Value), ([intW at'] : List Value)[j]? = some v → w.cell? ⟨w0.heap.size, 0 + j, none⟩ = some v := by
    intro j v hj
    rw [← hw, World.cell?_alloc_new, Nat.zero_add]
    simpa using hj
  have h1v : ∀ v ∈ ([intW at'] : List Value), v.oneCell' = true := one_ints [at']
  have zl : ∀ k, (Builtin.zeroCells (Value.int .i64 0).cells k).toList = List.replicate k (intW 0) := by
    intro k
    simp [Builtin.zeroCells, Value.cells, intW, Nat.mod_one]
    rw [List.map_const', List.length_range]
  rcases hb with ⟨h0, hl0, hx⟩ | ⟨o, cap, rest, rfl, ho, hcl, hrl, hnc, h63⟩
  · obtain rfl : l = [] := List.eq_nil_of_length_eq_zero h0
    obtain rfl : i = 0 := by simpa using hi
    have core : ∀ base, Calls P (ρ.f 21) #[.slice base 0 0, .int .i64 ((0 : Nat) : Int), .slice (some ⟨w0.heap.size, 0, none⟩) 1 1] w (fun e w' => ∃ G' r v s', e = .returned v ∧ G.le G' ∧ SRel Γ G' s' w' ∧ VRel G' r v ∧
      ∃ o cap rest, r = .osl o 0 1 (0 + 1) cap ∧ 0 + 1 ≤ cap ∧ cap < 2 ^ 63 ∧ rest.length = cap - (0 + 1) ∧ (s.objs o = none ∨ ∃ cap0, x = .osl o 0 1 0 cap0) ∧ s' = s.set o ([at'].map intC ++ rest)) := by
      intro base
      refine Calls.mono (Any2.slices_Insert_int_end_grow L base 0 0 w0.heap.size 0 1 1 [] [intW at'] w (by decide) (by decide) (by decide) (by decide) rfl rfl (fun _ => rfl) (by simp) hvs h1v) ?_
      rintro e' w' ⟨rfl, rfl⟩
      obtain ⟨o, k1, k2, k3, k4⟩ := hs.drew.newObj (cs := [at'].map intC ++ (List.replicate (grownCap w (0 + 1) 0 (ρ.t 3) - (0 + 1)) 0).map intC) (vs := [at'].map intW ++ (List.replicate (grownCap w (0 + 1) 0 (ρ.t 3) - (0 + 1)) 0).map intW) ((VRels.ints _).append (VRels.ints _)) (ρ.t 3)
      have harr : ([] ++ [intW at'] : List Value).toArray ++ Builtin.zeroCells (Value.int .i64 0).cells (grownCap w (0 + 1) 0 (ρ.t 3) - (0 + 1)) = ([at'].map intW ++ (List.replicate (grownCap w (0 + 1) 0 (ρ.t 3) - (0 + 1)) (0 : Int)).map intW).toArray := by
        apply Array.ext'
        simp [zl]
      rw [harr]
      refine ⟨_, .osl o 0 1 (0 + 1) (grownCap w (0 + 1) 0 (ρ.t 3)), _, _, rfl, k2, k3, ?_, o, _, _, rfl, grownCap_ge _ _ _ _, cut_appendCap_lt _ _ _ _ (by decide), by simp, .inl k1, rfl⟩
      simp only [VRel]
      exact ⟨_, k4, rfl, grownCap_ge _ _ _ _⟩
    rcases hx with rfl | rfl | rfl
    · simp only [nilS, VRel] at hxr
      subst hxr
      exact core none
    · simp only [VRel] at hxr
      rcases hxr with ⟨b, off, cap, vs, rfl, hl, _, hv0, hro, hsp⟩ | ⟨_, _, a, cap, rfl, hmere⟩ | ⟨_, _, h, _⟩
      · simp only [SpRel] at hsp
        subst hsp
        exact core _
      · rcases hmere with h | h | ⟨_, rfl⟩
        · cases h
        · cases h
        · exact core _
      · cases h
    · simp only [VRel] at hxr
      rcases hxr with ⟨b, off, cap, vs, rfl, hl, _, hv0, hro, hsp⟩ | ⟨_, _, a, cap, rfl, hmere⟩ | ⟨_, _, h, _⟩
      · simp only [SpRel] at hsp
        obtain ⟨rfl, _⟩ := hsp
        exact core _
      · rcases hmere with h | h | ⟨h, _⟩ <;> cases h
      · cases h
  · have hxr' := hxr
    simp only [VRel] at hxr
    obtain ⟨b, hb1, rfl, _⟩ := hxr
    obtain ⟨b', vs, q1, q2, q3, q4⟩ := hs.objs o _ ho
    rw [hb1] at q1
    cases q1
    have hvl := q2.length
    have hcl : (l.map intC).length = l.length := by simp
    rw [List.length_append, hcl, hrl] at hvl
    have hvt := q2.take (l.map intC).length
    rw [List.take_left] at hvt
    have hvt := VRels.ints_eq hvt
    rw [hcl] at hvt
    have hbw := hold o b hb1
    have hcs : ∀ (j : Nat) (v : Value), (l.map intW)[j]? = some v → w.cell? ⟨b, 0 + j, none⟩ = some v := by
      intro j v hj
      rw [← hvt, List.getElem?_take] at hj
      split at hj
      · rw [Nat.zero_add]; exact (q4 j v hj).1
      · cases hj
    have hsp : ∀ j, j < cap → (w.cell? ⟨b, 0 + j, none⟩).isSome = true := fun j hj => by
      rw [Nat.zero_add, (q4 j (vs[j]'(by omega)) (by simp)).1]; rfl
    have hfz : ∀ j, j < cap → w.frozen? ⟨b, 0 + j, none⟩ = false := fun j hj => by
      rw [Nat.zero_add]; exact (q4 j (vs[j]'(by omega)) (by simp)).2.1
    have hrl' : rest.length = cap - l.length := by omega
    rcases Nat.lt_or_ge cap (l.length + 1) with hno | hroom
    · rcases Nat.lt_or_ge i l.length with hil | hil
      · -- a new row, in the middle
        refine Calls.mono (Any2.slices_Insert_int_grow L b 0 l.length cap i w0.heap.size 0 1 1 (l.map intW) [intW at'] w hil (by decide) hnc hno (by omega) (by simp) rfl hcs hvs (one_ints l) h1v) ?_
        rintro e' w' ⟨rfl, rfl⟩
        have hg1 := grownCap_ge w (l.length + 1) cap (ρ.t 3)
        have hg2 : grownCap w (l.length + 1) cap (ρ.t 3) < 2 ^ 63 := cut_appendCap_lt _ _ _ _ (by omega)
        generalize hgc : grownCap w (l.length + 1) cap (ρ.t 3) = gc at *
        have harr : ((l.map intW).take i).toArray ++ Builtin.zeroCells (Value.int .i64 0).cells (l.length + 1 - i) ++ Builtin.zeroCells (Value.int .i64 0).cells (gc - (l.length + 1)) =
            ((l.take i).map intW ++ ((List.replicate (l.length + 1 - i) (0 : Int)).map intW ++ (List.replicate (gc - (l.length + 1)) (0 : Int)).map intW)).toArray := by
          apply Array.ext'
          simp [zl]
        rw [harr]
        obtain ⟨o2, k1, k2, k3, k4⟩ := hs.newObj (cs := (l.take i).map intC ++ ((List.replicate (l.length + 1 - i) (0 : Int)).map intC ++ (List.replicate (gc - (l.length + 1)) (0 : Int)).map intC))
          (vs := (l.take i).map intW ++ ((List.replicate (l.length + 1 - i) (0 : Int)).map intW ++ (List.replicate (gc - (l.length + 1)) (0 : Int)).map intW)) ((VRels.ints _).append ((VRels.ints _).append (VRels.ints _))) (ρ.t 3)
        have hti : ((l.take i).map intC).length = i := by simp; omega
        obtain ⟨_, _, f3⟩ := setCells_obj k3.drew (AS.set_objs_same _ _ _) k4 (off := i) (ds := [at'].map intC) (us := [at'].map intW) (by simp; omega) (VRels.ints _)
        have e1 := asetAll_mid ([at'].map intC) ((l.take i).map intC) ((List.replicate (l.length + 1 - i) (0 : Int)).map intC ++ (List.replicate (gc - (l.length + 1)) (0 : Int)).map intC) (by simp; omega)
        rw [hti] at e1
        rw [e1, AS.set_set] at f3
        have hti2 : ((l.take i).map intC ++ [at'].map intC).length = i + 1 := by rw [List.length_append, hti]; rfl
        have hdl : ((l.drop i).map intC).length = l.length - i := by simp
        have e2 := asetAll_mid ((l.drop i).map intC) ((l.take i).map intC ++ [at'].map intC) (((List.replicate (l.length + 1 - i) (0 : Int)).map intC ++ (List.replicate (gc - (l.length + 1)) (0 : Int)).map intC).drop ([at'].map intC).length) (by simp; omega)
        rw [hti2] at e2
        obtain ⟨_, _, f4⟩ := setCells_obj f3.drew (AS.set_objs_same _ _ _) k4 (off := i + 1) (ds := (l.drop i).map intC) (us := (l.drop i).map intW) (by simp; omega) (VRels.ints _)
        rw [e2, AS.set_set] at f4
        have hfin : (l.take i).map intC ++ [at'].map intC ++ (l.drop i).map intC ++ ((((List.replicate (l.length + 1 - i) (0 : Int)).map intC ++ (List.replicate (gc - (l.length + 1)) (0 : Int)).map intC).drop ([at'].map intC).length).drop ((l.drop i).map intC).length) =
            (l.take i ++ at' :: l.drop i).map intC ++ (List.replicate (gc - (l.length + 1)) (0 : Int)).map intC := by
          have hz : ((List.replicate (l.length + 1 - i) (0 : Int)).map intC).drop (1 + (l.length - i)) = [] := List.drop_eq_nil_of_le (by simp; omega)
          rw [List.drop_drop, hdl, List.length_map, List.length_singleton, List.drop_append, List.length_map, List.length_replicate, hz, List.nil_append,
            show 1 + (l.length - i) - (l.length + 1 - i) = 0 by omega, List.drop_zero]
          simp
        rw [hfin] at f4
        refine ⟨_, .osl o2 0 1 (l.length + 1) gc, _, _, rfl, k2, by simpa using f4, ?_, o2, gc, _, rfl, hg1, hg2, by simp, .inl k1, rfl⟩
        simp only [VRel]
        exact ⟨_, k4, rfl, hg1⟩
      · -- a new row, at the end
        obtain rfl : i = l.length := by omega
        refine Calls.mono (Any2.slices_Insert_int_end_grow L (some ⟨b, 0, none⟩) l.length cap w0.heap.size 0 1 1 (l.map intW) [intW at'] w (by decide) hnc hno (by omega) (by simp) rfl (fun h => by cases h) (fun a ha j v hj => by cases ha; rw [add_spot]; exact hcs j v hj) hvs h1v) ?_
        rintro e' w' ⟨rfl, rfl⟩
        have hg1 := grownCap_ge w (l.length + 1) cap (ρ.t 3)
        have hg2 : grownCap w (l.length + 1) cap (ρ.t 3) < 2 ^ 63 := cut_appendCap_lt _ _ _ _ (by omega)
        generalize hgc : grownCap w (l.length + 1) cap (ρ.t 3) = gc at *
        obtain ⟨o2, k1, k2, k3, k4⟩ := hs.drew.newObj (cs := (l ++ [at']).map intC ++ (List.replicate (gc - (l.length + 1)) 0).map intC) (vs := (l ++ [at']).map intW ++ (List.replicate (gc - (l.length + 1)) 0).map intW) ((VRels.ints _).append (VRels.ints _)) (ρ.t 3)
        have harr : (l.map intW ++ [intW at'] : List Value).toArray ++ Builtin.zeroCells (Value.int .i64 0).cells (gc - (l.length + 1)) = ((l ++ [at']).map intW ++ (List.replicate (gc - (l.length + 1)) (0 : Int)).map intW).toArray := by
          apply Array.ext'
          simp [zl]
        rw [harr]
        refine ⟨_, .osl o2 0 1 (l.length + 1) gc, _, _, rfl, k2, k3, ?_, o2, gc, (List.replicate (gc - (l.length + 1)) (0 : Int)).map intC, rfl, hg1, hg2, by simp, .inl k1, by rw [List.take_length, List.drop_length]⟩
        simp only [VRel]
        exact ⟨_, k4, rfl, hg1⟩
    · obtain ⟨r0, rest', hrest⟩ : ∃ r0 rest', rest = r0 :: rest' := by
        cases rest with
        | nil => simp at hrl'; omega
        | cons a r => exact ⟨a, r, rfl⟩
      have hrl2 : rest'.length = cap - (l.length + 1) := by rw [hrest] at hrl'; simp at hrl'; omega
      rcases Nat.lt_or_ge i l.length with hil | hil
      · -- in place
        obtain ⟨TB, kB, hsb, hkB⟩ := shape_of_cell (q4 0 (vs[0]'(by omega)) (by simp)).1
        have hsa : w.shape? w0.heap.size = some (e, 1) := by rw [← hw]; simp only [World.shape?, World.alloc, Array.getElem?_push_size]; rfl
        have hfz0 : ∀ j, w.frozen? ⟨w0.heap.size, j, none⟩ = false := fun j => by rw [← hw]; exact World.frozen?_alloc_new _ _ _ _
        refine Calls.mono (Any2.slices_Insert_int_shift L b 0 l.length cap i w0.heap.size 0 1 1 (l.map intW) [intW at'] w hil (by decide) hroom (by omega) (by omega) (by simp) rfl hcs (fun j hj => hsp j (by omega)) (fun j hj => hfz j (by omega)) hvs (one_ints l) h1v e TB 1 kB hsa hsb hkB (hfz0 0) (hfz0 1)) ?_
        rintro e' w' ⟨rfl, rfl⟩
        obtain ⟨_, _, f3⟩ := setCells_obj hs.drew ho hb1 (off := 0 + (i + 1)) (ds := (l.drop i).map intC) (us := (l.drop i).map intW) (by simp; omega) (VRels.ints _)
        obtain ⟨_, _, f4⟩ := setCells_obj f3 (AS.set_objs_same _ _ _) hb1 (off := 0 + i) (ds := [at'].map intC) (us := [at'].map intW) (by rw [length_asetAll]; simp; omega) (VRels.ints _)
        rw [AS.set_set] at f4
        have hdrop : l.drop i = l[i] :: l.drop (i + 1) := List.drop_eq_getElem_cons hil
        have hfin : asetAll (asetAll (l.map intC ++ rest) (0 + (i + 1)) ((l.drop i).map intC)) (0 + i) ([at'].map intC) = (l.take i ++ at' :: l.drop i).map intC ++ rest' := by
          have h := insert_cells ((l.take i).map intC) ((l.drop (i + 1)).map intC) (intC l[i]) (intC at') r0 rest'
          have hti : ((l.take i).map intC).length = i := by simp; omega
          rw [hti] at h
          rw [Nat.zero_add, Nat.zero_add, hdrop, List.map_append, List.map_cons, List.map_cons, hrest]
          have hl : l.map intC = (l.take i).map intC ++ intC l[i] :: (l.drop (i + 1)).map intC := by
            rw [← List.map_cons, ← hdrop, ← List.map_append, List.take_append_drop]
          rw [hl]
          rw [List.map_cons, List.map_nil, h, List.map_cons]
        rw [hfin] at f4
        refine ⟨G, .osl o 0 1 (l.length + 1) cap, _, _, rfl, .refl G, by simpa using f4, ?_, o, cap, rest', rfl, hroom, h63, hrl2, .inr ⟨cap, rfl⟩, rfl⟩
        simp only [VRel]
        exact ⟨_, hb1, rfl, hroom⟩
      · obtain rfl : i = l.length := by omega
        refine Calls.mono (Any2.slices_Insert_int_end_room L b 0 l.length cap w0.heap.size 0 1 1 [intW at'] w (by decide) hroom (by omega) rfl (fun j hj => by rw [Nat.add_assoc]; exact hsp _ (by omega)) (fun j hj => by rw [Nat.add_assoc]; exact hfz _ (by omega)) hvs h1v) ?_
        rintro e' w' ⟨rfl, rfl⟩
        obtain ⟨_, _, f3⟩ := setCells_obj hs ho hb1 (off := 0 + l.length) (ds := [at'].map intC) (us := [at'].map intW) (by simp; omega) (VRels.ints _)
        have e1 := asetAll_mid ([at'].map intC) (l.map intC) rest (by rw [hrest]; simp)
        rw [hcl] at e1
        rw [Nat.zero_add, e1, hrest] at f3
        refine ⟨G, .osl o 0 1 (l.length + 1) cap, _, _, rfl, .refl G, by simpa using f3, ?_, o, cap, rest', rfl, hroom, h63, hrl2, .inr ⟨cap, rfl⟩, by simp⟩
        simp only [VRel]
        exact ⟨_, hb1, rfl, hroom⟩

end Go.AM


set_option autoImplicit false
namespace Go.AM
open Go Go.RowKit Go.Shelf Go.Proofs

variable {P : Program} {Γ : Nat → List AV} {G : Gh} {s : AS} {w : World} {N : Nat}

theorem run_lit1 {T e : TypeId} (x : Int) (hu : P.underlying T = some (.slice e)) (hz : zcells P e = some [.v (.int .i64 0)]) (hc : P.cellsOf e = 1) :
    (Instr.buildSlice T 1 #[(0, intW x)]).run P w = .ok (.slice (some ⟨w.heap.size, 0, none⟩) 1 1) (w.alloc (.cells #[intW x] e)) := by
  obtain ⟨v, hv, hvz⟩ := zcells_some hz
  have h1 : afill (fun i => some (i * P.cellsOf e, P.cellsOf e)) (zrow (1 * P.cellsOf e) [.v (.int .i64 0)]) [(0, intC x)] = some [intC x] := by
    rw [hc]; rfl
  have hne : v.cells.toList ≠ [] := by
    intro e'
    rw [e'] at hvz
    cases hvz
  rw [hvz] at h1
  obtain ⟨vs, h2, h3⟩ := afill_sound (G := ⟨fun _ _ => none, fun _ => none, fun _ _ => none, 0, 0, 0, w, []⟩) (qs := ((#[(0, intW x)] : Array (Nat × Value))).toList) _ h1 (.cons 0 (by simp [intC, intW, VRel]) .nil) (VRels_zrow (1 * P.cellsOf e) hne)
  have h3 : vs = [intW x] := VRels.ints_eq (l := [x]) h3
  subst h3
  have hcells : (Array.range (1 * P.cellsOf e)).map (fun i => v.cells[i % v.cells.size]!) = ((List.range (1 * P.cellsOf e)).map fun i => v.cells.toList.toArray[i % v.cells.toList.toArray.size]!).toArray := by
    apply Array.ext'
    simp
  simp only [Instr.buildSlice, Sem.run_bind, run_underlying hu, Result.andThen_ok, run_sizeOf' (show P.cellsOf e ≠ 0 by omega)]
  rw [if_neg (by omega), if_neg (by omega)]
  simp only [Sem.run_bind, hv, Sem.run_pure, Result.andThen_ok, hcells]
  simp only [h2]
  simp [newRow]

theorem insert_hop {ρ : Ren} (L : Lays2.n21 P ρ) {E : Env} {a : Act} {o1 o : Oper} {xo io ao : Operand} {d1 : Tmp} {T e : TypeId} {l : List Int} {i : Nat} {x : Int} {ats : Array TypeId}
    (ho1 : o1.op = .buildSlice T 1 #[(0, ao)]) (hd1 : o1.dst = some d1) (hu : P.underlying T = some (.slice e)) (hz : zcells P e = some [.v (.int .i64 0)]) (hc : P.cellsOf e = 1)
    (ho : o.op = .call { callee := .value (.func (ρ.f 21)), args := #[xo, io, .tmp d1], argTypes := ats }) (hcall : callable P (ρ.f 21) = true) (hx1 : xo ≠ .tmp d1) (hi1 : io ≠ .tmp d1)
    (hb : OBuf 1 s (aeval Γ E xo) l.length (l.map intC)) (hi : aeval Γ E io = .v (.int .i64 (i : Int))) (ha : aeval Γ E ao = .v (.int .i64 x)) (hil : i ≤ l.length) (hn : l.length ≤ 2 ^ 40)
    (hdN : d1 < N) (hr : Rel Γ N G E s a w) :
    ∃ G1 v w1, (execOp a.eval o1).run P w = .ok (.value v) w1 ∧ G.le G1 ∧ SRel Γ G1 s w1 ∧ VRel G1 (.sl 1 1 [intC x] .no) v ∧
      ∀ a1, a1 = a.put o1.dst v → Rel Γ N G1 (updO E o1.dst (.sl 1 1 [intC x] .no)) s a1 w1 → OpRes P Γ G1 (fun r s' => ∃ ob cap rest, r = .osl ob 0 1 (l.length + 1) cap ∧ l.length + 1 ≤ cap ∧ cap < 2 ^ 63 ∧ rest.length = cap - (l.length + 1) ∧
        (s.objs ob = none ∨ ∃ cap0, aeval Γ E xo = .osl ob 0 1 l.length cap0) ∧ s' = s.set ob ((l.take i ++ x :: l.drop i).map intC ++ rest)) ((execOp a1.eval o).run P w1) := by
  have hav := hr.eval ao
  rw [ha] at hav
  simp only [VRel] at hav
  obtain ⟨g1, g2⟩ := hr.st.newRo [intW x] #[intW x] e (by simp)
  refine ⟨_, .slice (some ⟨w.heap.size, 0, none⟩) 1 1, _, ?_, g1, g2, ?_, ?_⟩
  · simp only [execOp, ho1, Sem.run_bind]
    rw [show (#[(0, ao)] : Array (Nat × Operand)).map (fun p => (p.1, a.eval p.2)) = #[(0, intW x)] by simp [hav, intW]]
    rw [run_lit1 x hu hz hc]
    rfl
  · simp only [VRel]
    refine .inl ⟨w.heap.size, 0, 1, [intW x], rfl, rfl, Nat.le_refl _, VRels.ints [x], ?_, trivial⟩
    exact RoAt.added G w.heap.size 0 [intW x]
  · rintro a1 rfl hr1
    have ex : (a.put o1.dst (.slice (some ⟨w.heap.size, 0, none⟩) 1 1)).eval (.tmp d1) = .slice (some ⟨w.heap.size, 0, none⟩) 1 1 := by
      rw [hd1]
      simp [Act.put, Act.eval, Array.getD, hr.size, hdN]
    have ep : ∀ y : Operand, y ≠ .tmp d1 → (a.put o1.dst (.slice (some ⟨w.heap.size, 0, none⟩) 1 1)).eval y = a.eval y := fun y hy => Act.eval_put (fun d hd => by rw [hd1] at hd; cases hd; exact hy)
    have e2 := hr1.eval xo
    rw [aeval_put (fun d hd => by rw [hd1] at hd; cases hd; exact hx1), ep xo hx1] at e2
    have e3 := hr.eval io
    rw [hi] at e3
    simp only [VRel] at e3
    have hcalls := insert_res L (s := s) x hb hil hn g2 e2 (fun o b h => hr.st.objLt o b h)
    obtain ⟨dst, op, type, pos, after, guard⟩ := o
    simp only at ho
    subst ho
    have ef : (a.put o1.dst (.slice (some ⟨w.heap.size, 0, none⟩) 1 1)).eval (.func (ρ.f 21)) = .func (.func (ρ.f 21)) #[] #[] := rfl
    have := (run_callFunc (w := w.alloc (.cells #[intW x] e)) hcall #[a.eval xo, .int .i64 i, .slice (some ⟨w.heap.size, 0, none⟩) 1 1])
    simp only [execOp, resolve, Deferred.ofValue, invoke, ef, List.map_toArray, List.map_cons, List.map_nil, ep xo hx1, ep io hi1, e3, ex, Sem.run_bind, Sem.run_pure, Result.andThen_ok]
    simp only [List.append_nil, Array.append_empty, Array.empty_append, this, OpRes]
    exact hcalls

end Go.AM


set_option autoImplicit false
namespace Go.AM
open Go Go.RowKit

variable {P : Program} {Γ : Nat → List AV} {G : Gh} {s : AS} {w : World} {N : Nat}

/-! ### A tree whose row is an object, and each node's unmerged leaves one, too -/
def onm : AV → Option Nat
  | .osl o _ _ _ _ => some o
  | _ => none
def cellsX (p : NodeV × AV) : List AV := [.v (.int .i64 p.1.kind), bytesV p.1.name .any, .v (.int .u64 p.1.key), bytesV p.1.parent .any, p.2]
theorem cellsX_len (p : NodeV × AV) : (cellsX p).length = 5 := rfl
theorem cells_len (n : NodeV) : n.cells.length = 5 := rfl

theorem OBuf.le {sz n : Nat} {x : AV} {cs : List AV} {s s' : AS} (h : OBuf sz s x n cs) (k : s.le s') : OBuf sz s' x n cs := by
  rcases h with h | ⟨o, cap, rest, h1, h2, h3⟩
  · exact .inl h
  · exact .inr ⟨o, cap, rest, h1, k.objs _ _ h2, h3⟩
theorem OBuf.set_ne {sz n : Nat} {x : AV} {cs : List AV} {s : AS} {o : Nat} {ds : List AV} (h : OBuf sz s x n cs) (k : onm x ≠ some o) : OBuf sz (s.set o ds) x n cs := by
  rcases h with h | ⟨o', cap, rest, rfl, h2, h3⟩
  · exact .inl h
  · exact .inr ⟨o', cap, rest, rfl, by rw [AS.set_objs_ne _ (fun e => k (by rw [e]; rfl))]; exact h2, h3⟩
theorem OBuf.drop_ne {sz n : Nat} {x : AV} {cs : List AV} {s : AS} {o : Nat} (h : OBuf sz s x n cs) (k : onm x ≠ some o) : OBuf sz (s.drop o) x n cs := by
  rcases h with h | ⟨o', cap, rest, rfl, h2, h3⟩
  · exact .inl h
  · exact .inr ⟨o', cap, rest, rfl, by rw [AS.drop_objs, upd_ne _ _ (fun e => k (by rw [e]; rfl))]; exact h2, h3⟩
theorem OBuf.some {sz n : Nat} {x : AV} {cs : List AV} {s : AS} {o : Nat} (h : OBuf sz s x n cs) (k : onm x = some o) : ∃ ds, s.objs o = some ds := by
  rcases h with ⟨_, _, rfl | rfl | rfl⟩ | ⟨o', cap, rest, rfl, h2, h3⟩
  · cases k
  · cases k
  · cases k
  · cases k; exact ⟨_, h2⟩
theorem empty_weak {sz : Nat} {sp : Sp} (h : sp = .full ∨ sp = .new) : (AV.sl sz 0 [] sp).weak (.sl sz 0 [] .any) := by
  intro G u hv
  simp only [VRel] at hv ⊢
  rcases hv with ⟨b, off, cap, vs, h1, h2, h3, h4, h5, h6⟩ | ⟨_, _, a, cap, h1, _⟩ | ⟨_, _, h1, _⟩
  · exact .inl ⟨b, off, cap, vs, h1, h2, h3, h4, h5, trivial⟩
  · exact .inr (.inl ⟨trivial, trivial, a, cap, h1, by simp⟩)
  · rcases h with rfl | rfl <;> cases h1

structure XsOk (s0 s : AS) (T : List (NodeV × AV)) : Prop where
  buf : ∀ p ∈ T, OBuf 1 s p.2 p.1.unm.length (p.1.unm.map intC)
  new : ∀ p ∈ T, ∀ o, onm p.2 = some o → s0.objs o = none
  sep : T.Pairwise fun p q => ∀ o, onm p.2 = some o → onm q.2 ≠ some o

structure TreeO (s0 s : AS) (X : AV) (T : List (NodeV × AV)) : Prop where
  xs : XsOk s0 s T
  le : s0.le s
  row : OBuf 5 s X T.length (rowC cellsX T)
  newR : ∀ O, onm X = some O → s0.objs O = none
  sepR : ∀ O, onm X = some O → ∀ p ∈ T, onm p.2 ≠ some O

theorem AS.le_none {s s' : AS} (h : s.le s') {o : Nat} (k : s'.objs o = none) : s.objs o = none := by
  cases hs : s.objs o with
  | none => rfl
  | some cs => rw [h.objs _ _ hs] at k; cases k

theorem TreeO.nil (s : AS) : TreeO s s nilS [] :=
  ⟨⟨fun p hp => absurd hp (List.not_mem_nil), fun p hp => absurd hp (List.not_mem_nil), .nil⟩, .refl s, .inl ⟨rfl, rfl, .inl rfl⟩, (fun O h => by cases h), (fun O h => by cases h)⟩

/-- One more node. -/
theorem TreeO.push {s0 s : AS} {X : AV} {T : List (NodeV × AV)} {p : NodeV × AV} {ob cap : Nat} {rest : List AV} (h : TreeO s0 s X T) (hb : OBuf 1 s p.2 p.1.unm.length (p.1.unm.map intC))
    (h1 : ∀ o, onm p.2 = some o → s0.objs o = none ∧ (∀ q ∈ T, onm q.2 ≠ some o) ∧ onm X ≠ some o) (h2 : s.objs ob = none ∨ ∃ cap0, X = .osl ob 0 5 T.length cap0) (h3 : T.length + 1 ≤ cap) (h4 : cap < 2 ^ 63) (h5 : rest.length = (cap - (T.length + 1)) * 5) :
    TreeO s0 (s.set ob (rowC cellsX T ++ cellsX p ++ rest)) (.osl ob 0 5 (T.length + 1) cap) (T ++ [p]) := by
  have hob0 : s0.objs ob = none := by
    rcases h2 with h2 | ⟨cap0, h2⟩
    · exact AS.le_none h.le h2
    · exact h.newR ob (by rw [h2]; rfl)
  have hne : ∀ q ∈ T ++ [p], onm q.2 ≠ some ob := by
    intro q hq e
    rw [List.mem_append, List.mem_singleton] at hq
    rcases h2 with h2 | ⟨cap0, h2⟩
    · have : ∃ ds, s.objs ob = some ds := by
        rcases hq with hq | rfl
        · exact (h.xs.buf q hq).some e
        · exact hb.some e
      rw [h2] at this
      obtain ⟨ds, hd⟩ := this
      cases hd
    · have hX : onm X = some ob := by rw [h2]; rfl
      rcases hq with hq | rfl
      · exact h.sepR ob hX q hq e
      · exact (h1 ob e).2.2 hX
  refine ⟨⟨fun q hq => ?_, fun q hq o ho => ?_, ?_⟩, AS.le_set h.le hob0 _, .inr ⟨ob, cap, rest, by rw [List.length_append]; rfl, by rw [AS.set_objs_same, row_snoc], ?_, by rw [List.length_append]; exact h5, by rw [List.length_append]; exact h3, h4⟩, fun O hO => ?_, fun O hO q hq => ?_⟩
  · have hq' := hq
    rw [List.mem_append, List.mem_singleton] at hq
    rcases hq with hq | rfl
    · exact (h.xs.buf q hq).set_ne (hne q hq')
    · exact hb.set_ne (hne q hq')
  · rw [List.mem_append, List.mem_singleton] at hq
    rcases hq with hq | rfl
    · exact h.xs.new q hq o ho
    · exact (h1 o ho).1
  · rw [List.pairwise_append]
    refine ⟨h.xs.sep, List.pairwise_singleton _ _, fun a ha b hb' o ho => ?_⟩
    rw [List.mem_singleton] at hb'
    subst hb'
    intro e
    exact (h1 o e).2.1 a ha ho
  · exact row_len cellsX_len _
  · cases hO; exact hob0
  · cases hO; exact hne q hq

/-- The unmerged leaves stay as they are. -/
theorem settle_xs {s0 : AS} {O : Nat} {rest : List AV} (hO0 : s0.objs O = none) (x : AV) : ∀ (B : List (NodeV × AV)) (A : List NodeV) (s : AS), XsOk s0 s B → s0.le s → (∀ p ∈ B, onm p.2 ≠ some O) → s.objs O = some (rowC NodeV.cells A ++ rowC cellsX B ++ rest) →
    ∃ s', Settles Γ s x s' x ∧ s'.objs O = some (rowC NodeV.cells (A ++ B.map (·.1)) ++ rest) ∧ s0.le s' := by
  intro B
  induction B with
  | nil =>
    intro A s _ hle _ hO
    refine ⟨s, .refl x, ?_, hle⟩
    simpa [rowC] using hO
  | cons p B ih =>
    intro A s hx hle hne hO
    have hsplit : rowC NodeV.cells A ++ rowC cellsX (p :: B) ++ rest = (rowC NodeV.cells A ++ [.v (.int .i64 p.1.kind), bytesV p.1.name .any, .v (.int .u64 p.1.key), bytesV p.1.parent .any]) ++ p.2 :: (rowC cellsX B ++ rest) := by
      simp [rowC, cellsX]
    rw [hsplit] at hO
    have hjoin : (rowC NodeV.cells A ++ [.v (.int .i64 p.1.kind), bytesV p.1.name .any, .v (.int .u64 p.1.key), bytesV p.1.parent .any]) ++ intsV p.1.unm .any :: (rowC cellsX B ++ rest) = rowC NodeV.cells (A ++ [p.1]) ++ rowC cellsX B ++ rest := by
      simp [rowC, NodeV.cells]
    have hsep := List.pairwise_cons.1 hx.sep
    have hp : p ∈ p :: B := List.mem_cons_self
    have hrest : ∀ s' : AS, (∀ q ∈ B, OBuf 1 s' q.2 q.1.unm.length (q.1.unm.map intC)) → XsOk s0 s' B := fun s' h => ⟨h, fun q hq => hx.new q (List.mem_cons_of_mem _ hq), hsep.2⟩
    rcases hx.buf p hp with ⟨h0, hl0, hv⟩ | ⟨o, cap, rs, hv, ho, hcl, hrl, hnc, h63⟩
    · have hw : p.2.weak (intsV p.1.unm .any) := by
        have hu : p.1.unm = [] := List.eq_nil_of_length_eq_zero h0
        rw [hu]
        rcases hv with hv | hv | hv
        · rw [hv]; exact AV.weak_nil
        · rw [hv]; exact empty_weak (.inl rfl)
        · rw [hv]; exact empty_weak (.inr rfl)
      have h1 := Settles.cells (Γ := Γ) x hO hw
      rw [hjoin] at h1
      obtain ⟨s', k1, k2, k3⟩ := ih (A ++ [p.1]) _ (hrest _ fun q hq => (hx.buf q (List.mem_cons_of_mem _ hq)).set_ne (hne q (List.mem_cons_of_mem _ hq))) (AS.le_set hle hO0 _) (fun q hq => hne q (List.mem_cons_of_mem _ hq)) (AS.set_objs_same _ _ _)
      refine ⟨s', h1.trans k1, ?_, k3⟩
      simpa using k2
    · have hpo : onm p.2 = some o := by rw [hv]; rfl
      have hOo : O ≠ o := fun e => hne p hp (by rw [hpo, e])
      rw [hv] at hO
      have h1 := Settles.inner (Γ := Γ) x hO ho hOo hcl
      have e : (AV.sl 1 p.1.unm.length (p.1.unm.map intC) .any) = intsV p.1.unm .any := rfl
      rw [e, hjoin] at h1
      obtain ⟨s', k1, k2, k3⟩ := ih (A ++ [p.1]) _ (hrest _ fun q hq => ((hx.buf q (List.mem_cons_of_mem _ hq)).drop_ne (hsep.1 q hq o hpo)).set_ne (hne q (List.mem_cons_of_mem _ hq))) (AS.le_set (AS.le_drop hle (hx.new p hp o hpo)) hO0 _) (fun q hq => hne q (List.mem_cons_of_mem _ hq)) (AS.set_objs_same _ _ _)
      refine ⟨s', h1.trans k1, ?_, k3⟩
      simpa using k2

theorem TreeO.settle {s0 s : AS} {X : AV} {T : List (NodeV × AV)} (h : TreeO s0 s X T) : ∃ s', Settles Γ s X s' (treeV (T.map (·.1))) ∧ s0.le s' := by
  rcases h.row with ⟨h0, hl0, hv⟩ | ⟨O, cap, rest, hv, hO, hcl, hrl, hnc, h63⟩
  · have hT : T = [] := List.eq_nil_of_length_eq_zero h0
    subst hT
    refine ⟨s, Settles.weak ?_, h.le⟩
    rcases hv with hv | hv | hv
    · rw [hv]; exact AV.weak_nil
    · rw [hv]; exact empty_weak (.inl rfl)
    · rw [hv]; exact empty_weak (.inr rfl)
  · have hX : onm X = some O := by rw [hv]; rfl
    obtain ⟨s1, k1, k2, k3⟩ := settle_xs (Γ := Γ) (h.newR O hX) X T [] s h.xs h.le (h.sepR O hX) (by simpa [rowC] using hO)
    rw [List.nil_append] at k2
    have k4 := Settles.outer (Γ := Γ) (n := T.length) (sz := 5) (cap := cap) k2 (by rw [row_len cells_len, List.length_map])
    rw [hv] at k1 ⊢
    refine ⟨_, k1.trans ?_, AS.le_drop k3 (h.newR O hX)⟩
    unfold treeV
    rw [List.length_map]
    exact k4

end Go.AM


set_option autoImplicit false
namespace Go.Proofs.YtcnilmidfhpckaaDoor
open Go Go.AM Go.Proofs


variable {Γ : Nat → List AV}

/-- A clone of one's own, with room behind it. -/
def NewBuf (s s' : AS) (r : AV) (l : List Int) : Prop := OBuf 1 s' r l.length (l.map intC) ∧ (∀ o, onm r = some o → s.objs o = none) ∧ s.le s'

set_option maxHeartbeats 400000 in
theorem intsCloneB_nil (s : AS) : ACalls Tryd.prog Γ 44 [nilS] s (fun r s' => NewBuf s s' r []) := by
  refine acalls_body Tryd.func44 rfl Tryd.ntmps44 Tryd.results44 (by simp) ?_
  unfold nilS
  refine wS fun K hK => ?_
  simp only [↓DN,UP,DF,Qa,Qb,Qc,Qd,Qe,Qf,Qg,Qh,reduceCtorEq,↓reduceIte,Na,Nb,Nc,Nk,Nf,Ng,Nh,Za,Zb,Zc,TT]
  refine hK _ _ ?_;clear hK K
  refine wK fun K hK => ?_
  refine wS fun K hK => ?_
  simp only [↓DN,UP,DF,Qa,Qb,Qc,Qd,Qe,Qf,Qg,Qh,reduceCtorEq,↓reduceIte,Na,Nb,Nc,Nk,Nf,Ng,Nh,Za,Zb,Zc,TT]
  refine hK _ _ ?_;clear hK K
  refine wC fun X Y hX hY => ?_
  simp only [↓DN,UP,DF,Qa,Qb,Qc,Qd,Qe,Qf,Qg,Qh,reduceCtorEq,↓reduceIte,Na,Nb,Nc,Nk,Nf,Ng,Nh,Za,Zb,Zc,TT, DB]
  refine hX ?_;clear hX hY X Y
  refine wS fun K hK => ?_
  simp only [↓DN,UP,DF,Qa,Qb,Qc,Qd,Qe,Qf,Qg,Qh,reduceCtorEq,↓reduceIte,Na,Nb,Nc,Nk,Nf,Ng,Nh,Za,Zb,Zc,TT]
  refine hK _ _ ?_;clear hK K
  refine awp_ret ?_
  simp only [retQ, AEnds, aresL, ares, List.toList_toArray, ↓upd_same]; try simp only [UP,DF,Nc,↓reduceIte,DT]
  exact ⟨_, _, AV.weak.refl _, AS.le.refl _, .inl ⟨rfl, rfl, .inl rfl⟩, (fun o h => by cases h), AS.le.refl _⟩

set_option maxHeartbeats 400000 in
theorem intsCloneB_no (l : List Int) (s : AS) (hl : l.length ≤ 2 ^ 42) : ACalls Tryd.prog Γ 44 [intsV l .no] s (fun r s' => NewBuf s s' r l) := by
  refine acalls_body Tryd.func44 rfl Tryd.ntmps44 Tryd.results44 (by simp) ?_
  unfold intsV
  refine wS fun K hK => ?_
  simp only [↓DN,UP,DF,Qa,Qb,Qc,Qd,Qe,Qf,Qg,Qh,reduceCtorEq,↓reduceIte,Na,Nb,Nc,Nk,Nf,Ng,Nh,Za,Zb,Zc,TT]
  refine hK _ _ ?_;clear hK K
  refine wK fun K hK => ?_
  refine wS fun K hK => ?_
  simp only [↓DN,UP,DF,Qa,Qb,Qc,Qd,Qe,Qf,Qg,Qh,reduceCtorEq,↓reduceIte,Na,Nb,Nc,Nk,Nf,Ng,Nh,Za,Zb,Zc,TT, Bool.false_eq_true, and_false]
  refine hK _ _ ?_;clear hK K
  refine wC fun X Y hX hY => ?_
  simp only [↓DN,UP,DF,Qa,Qb,Qc,Qd,Qe,Qf,Qg,Qh,reduceCtorEq,↓reduceIte,Na,Nb,Nc,Nk,Nf,Ng,Nh,Za,Zb,Zc,TT, DB]
  refine hY ?_;clear hX hY X Y
  refine awp_skip ?_
  refine hK _ _ ?_;clear hK K
  by_cases h0 : l.length = 0
  · have hl0 : l = [] := List.eq_nil_of_length_eq_zero h0
    subst hl0
    refine wS fun K hK => ?_
    simp only [↓DN,UP,DF,Qa,Qb,Qc,Qd,Qe,Qf,Qg,Qh,reduceCtorEq,↓reduceIte,Na,Nb,Nc,Nk,Nf,Ng,Nh,Za,Zb,Zc,TT]
    refine hK _ _ ?_;clear hK K
    refine awp_ret ?_
    simp only [retQ, AEnds, aresL, ares, List.toList_toArray, ↓upd_same]; try simp only [UP,DF,Nc,↓reduceIte,DT]
    exact ⟨_, s, AV.weak.refl _, AS.le.refl s, .inl ⟨rfl, rfl, .inr (.inr rfl)⟩, (fun o h => by cases h), AS.le.refl _⟩
  · refine awp_reg_at2 rfl (by decide) ?_
    intro ops
    simp only [↓AXq_nil,↓AXq_cons,pval,DX,Nat.reduceBEq,↓DN,UP,DF,Qa,Qb,Qc,Qd,Qe,Qf,Qg,Qh,reduceCtorEq,↓reduceIte,Na,Nb,Nc,Nk,Nf,Ng,Nh,Za,Zb,Zc,TT]
    refine ⟨_, fun G a w hr => append_own_res (n := 0) (m := l.length) (cs := []) (ds := l.map intC) (e := 3) (z := [.v (.int .i64 0)]) rfl Tryd.underlying44 (by simp only [↓DN,UP,DF,Qa,Qb,Qc,Qd,Qe,Qf,Qg,Qh,reduceCtorEq,↓reduceIte,Na,Nb,Nc,Nk,Nf,Ng,Nh,Za,Zb,Zc,TT]; try rfl) (by simp only [↓DN,UP,DF,Qa,Qb,Qc,Qd,Qe,Qf,Qg,Qh,reduceCtorEq,↓reduceIte,Na,Nb,Nc,Nk,Nf,Ng,Nh,Za,Zb,Zc,TT]; try rfl) (by rw [T.c3]; decide) (by rw [T.c3]; rfl) (by simp only [↓DN,UP,DF,Qa,Qb,Qc,Qd,Qe,Qf,Qg,Qh,reduceCtorEq,↓reduceIte,Na,Nb,Nc,Nk,Nf,Ng,Nh,Za,Zb,Zc,TT, asrc, aeval, upd, Nc, ↓reduceIte]) h0 (by rw [T.b3]; omega) (by omega) (by simp [List.all_eq_true, intC, AV.one]) (by rw [T.c3]; exact .inl ⟨rfl, rfl, .inr (.inr rfl)⟩) hr.eval hr.st, ?_⟩
    rw [T.c3]
    rintro r s1 ⟨ob, cap, rest, rfl, hcap, h63, hrl, hob, rfl⟩
    simp only [↓AXq_nil,↓AXq_cons,pval,DX,Nat.reduceBEq,↓DN,UP,DF,Qa,Qb,Qc,Qd,Qe,Qf,Qg,Qh,reduceCtorEq,↓reduceIte,Na,Nb,Nc,Nk,Nf,Ng,Nh,Za,Zb,Zc,TT]
    refine awp_ret ?_
    simp only [retQ, AEnds, aresL, ares, List.toList_toArray, ↓upd_same]; try simp only [UP,DF,Nc,↓reduceIte,DT]
    have hob : s.objs ob = none := by
      rcases hob with h | ⟨_, h⟩
      · exact h
      · simp [aeval, upd] at h
    rw [Nat.zero_add, Nat.mul_one] at *
    refine ⟨_, _, AV.weak.refl _, AS.le.refl _, .inr ⟨ob, cap, rest, rfl, AS.set_objs_same _ _ _, by simp, by rw [Nat.mul_one]; exact hrl, hcap, h63⟩, fun o h => ?_, AS.le_set (AS.le.refl s) hob _⟩
    cases h
    exact hob

theorem intsCloneB_calls (l : List Int) (s : AS) (hl : l.length ≤ 2 ^ 42) : ACalls Tryd.prog Γ 44 [intsV l .any] s (fun r s' => NewBuf s s' r l) :=
  ACalls.anyS (post := []) (fun e _ => by obtain rfl : l = [] := List.eq_nil_of_length_eq_zero e; exact intsCloneB_nil s) (intsCloneB_no l s hl)

end Go.Proofs.YtcnilmidfhpckaaDoor


set_option autoImplicit false
namespace Go.Proofs.YtcnilmidfhpckaaDoor
open Go Go.AM Go.Proofs


variable {Γ : Nat → List AV}

set_option maxRecDepth 100000 in
set_option maxHeartbeats 2000000 in
theorem nodeCloneB_calls (N : NodeV) (hm : N.name.length ≤ 2 ^ 45) (hp : N.parent.length ≤ 2 ^ 45) (hu : N.unm.length ≤ 2 ^ 42) (s : AS) : ACalls Tryd.prog Γ 33 [.agg N.cells] s (fun r s' => ∃ x, r = .agg (cellsX (N, x)) ∧ NewBuf s s' x N.unm) := by
  refine acalls_body Tryd.func33 rfl Tryd.ntmps33 Tryd.results33 (by simp) ?_
  unfold NodeV.cells
  obtain ⟨k, m, y, pa, u⟩ := N
  simp only at hp hu hm
  refine wS fun K hK => ?_
  simp only [↓DN,UP,DF,Qa,Qb,Qc,Qd,Qe,Qf,Qg,Qh,reduceCtorEq,↓reduceIte,Na,Nb,Nc,Nk,Nf,Ng,Nh,Za,Zb,Zc,TT, intsV]
  intro o1 ho1 o2 ho2
  have h21 : o2 ≠ o1 := by
    rintro rfl
    simp [AS.set] at ho2
  have h12 := h21.symm
  have h20 : s.objs o2 = none := by simpa [AS.set, upd, h21] using ho2
  refine hK _ _ ?_;clear hK K
  refine awp_mrk_seq T.mixed [(o1, [.v (.int .i64 k), .sl 1 m.length (m.map byteV) .any, .v (.int .u64 y), .sl 1 pa.length (pa.map byteV) .any, .sl 1 u.length (u.map intC) .any])] [2, 5, 8] [1, 4, 7] [10, 12, 14] (by kernel_rfl) (by simp only [Pres_cons, Pres_nil, and_true]; simp [AS.set, upd, h12, h21]) ?_
  intro K hK
  simp only [↓AXr_nil, ↓AXr_cons, gval, lval, fzGet_cons, fzGet_nil, Pres_cons, Pres_nil, List.any_cons, List.any_nil, List.contains_cons, List.contains_nil, Nat.reduceBEq, Bool.or_false, Bool.or_true, Bool.or_self, Bool.false_or, ↓DN,UP,DF,Qa,Qb,Qc,Qd,Qe,Qf,Qg,Qh,reduceCtorEq,↓reduceIte,Na,Nb,Nc,Nk,Nf,Ng,Nh,Za,Zb,Zc,TT, h21, h12]
  refine acallk (bytesClone_calls m _ (by omega)) ?_
  rintro r s' ⟨rfl, rfl⟩
  simp only [↓AXq_nil, ↓AXq_cons, pval, ↓AXr_nil, ↓AXr_cons, gval, lval, fzGet_cons, fzGet_nil, Pres_cons, Pres_nil, List.any_cons, List.any_nil, DX, Nat.reduceBEq, ↓DN,UP,DF,Qa,Qb,Qc,Qd,Qe,Qf,Qg,Qh,reduceCtorEq,↓reduceIte,Na,Nb,Nc,Nk,Nf,Ng,Nh,Za,Zb,Zc,TT, h21, h12]
  refine acallk (bytesClone_calls pa _ hp) ?_
  rintro r s' ⟨rfl, rfl⟩
  simp only [↓AXq_nil, ↓AXq_cons, pval, ↓AXr_nil, ↓AXr_cons, gval, lval, fzGet_cons, fzGet_nil, Pres_cons, Pres_nil, List.any_cons, List.any_nil, DX, Nat.reduceBEq, ↓DN,UP,DF,Qa,Qb,Qc,Qd,Qe,Qf,Qg,Qh,reduceCtorEq,↓reduceIte,Na,Nb,Nc,Nk,Nf,Ng,Nh,Za,Zb,Zc,TT, h21, h12]
  refine acallk (intsCloneB_calls u _ hu) ?_
  rintro r s' ⟨hb, hnew, hle⟩
  have q1 : s'.objs o1 = some [.v (.int .i64 k), .sl 1 m.length (m.map byteV) .any, .v (.int .u64 y), .sl 1 pa.length (pa.map byteV) .any, .sl 1 u.length (u.map intC) .any] := hle.objs _ _ (by simp [AS.set, upd, h12])
  have q2 : s'.objs o2 = some [.v (.int .i64 0), .v (.slice none 0 0), .v (.int .u64 0), .v (.slice none 0 0), .v (.slice none 0 0)] := hle.objs _ _ (AS.set_objs_same _ _ _)
  have hs : s.le s' := (AS.le_set (AS.le_set (AS.le.refl s) ho1 _) h20 _).trans hle
  have n1 : onm r ≠ some o1 := fun e => by have := hnew o1 e; simp [AS.set, upd, h12] at this
  have n2 : onm r ≠ some o2 := fun e => by have := hnew o2 e; simp [AS.set] at this
  have n0 : ∀ o, onm r = some o → s.objs o = none := fun o e => AS.le_none (AS.le_set (AS.le_set (AS.le.refl s) ho1 _) h20 _) (hnew o e)
  have hone : r.one = true := by
    rcases hb with ⟨_, _, rfl | rfl | rfl⟩ | ⟨_, _, _, rfl, _⟩ <;> rfl
  have hcell : r.cells = [r] := by
    rcases hb with ⟨_, _, rfl | rfl | rfl⟩ | ⟨_, _, _, rfl, _⟩ <;> rfl
  unfold AV.cells at hcell
  unfold AV.one at hone
  simp only [↓AXq_nil, ↓AXq_cons, pval, ↓AXr_nil, ↓AXr_cons, gval, lval, fzGet_cons, fzGet_nil, Pres_cons, Pres_nil, List.any_cons, List.any_nil, DX, Nat.reduceBEq, ↓DN,UP,DF,Qa,Qb,Qc,Qd,Qe,Qf,Qg,Qh,reduceCtorEq,↓reduceIte,Na,Nb,Nc,Nk,Nf,Ng,Nh,Za,Zb,Zc,TT, q1, q2, hcell, h21, h12, intsV, hone]
  refine hK _ _ ?_;clear hK K
  refine wS fun K hK => ?_
  simp only [↓DN,UP,DF,Qa,Qb,Qc,Qd,Qe,Qf,Qg,Qh,reduceCtorEq,↓reduceIte,Na,Nb,Nc,Nk,Nf,Ng,Nh,Za,Zb,Zc,TT, q1, q2, hcell, h21, h12, intsV, hone]
  refine hK _ _ ?_;clear hK K
  refine awp_ret ?_
  refine aends_cell (o := o2) (off := 0) (by simp only [upd, Nc, ↓reduceIte]) (AS.set_objs_same _ _ _) (by rw [T.c46]; decide) (by simp only [↓DN,UP,DF,Qa,Qb,Qc,Qd,Qe,Qf,Qg,Qh,reduceCtorEq,↓reduceIte,Na,Nb,Nc,Nk,Nf,Ng,Nh,Za,Zb,Zc,TT]; rfl) ?_
  refine ⟨_, _, AV.weak.refl _, AS.le.refl _, r, rfl, ?_, n0, ?_⟩
  · first | exact ((((hb.set_ne n1).set_ne n1).set_ne n1).set_ne n2) | exact ((hb.set_ne n1).set_ne n2)
  · first | exact AS.le_set (AS.le_set (AS.le_set (AS.le_set hs ho1 _) ho1 _) ho1 _) h20 _ | exact AS.le_set (AS.le_set hs ho1 _) h20 _

end Go.Proofs.YtcnilmidfhpckaaDoor


set_option autoImplicit false
namespace Go.Proofs.YtcnilmidfhpckaaDoor
open Go Go.AM Go.Proofs


variable {Γ : Nat → List AV}

theorem zrow_quin (a b c d e : AV) : zrow 5 [a, b, c, d, e] = [a, b, c, d, e] := rfl

theorem TreeO.leR {s0 s s' : AS} {X : AV} {TS : List (NodeV × AV)} (h : TreeO s0 s X TS) (k : s.le s') : TreeO s0 s' X TS :=
  ⟨⟨fun p hp => (h.xs.buf p hp).le k, h.xs.new, h.xs.sep⟩, h.le.trans k, h.row.le k, h.newR, h.sepR⟩

/-- A node that fits a machine. -/
def NodeW (n : NodeV) : Prop := n.name.length ≤ 2 ^ 45 ∧ n.parent.length ≤ 2 ^ 45 ∧ n.unm.length ≤ 2 ^ 42

set_option maxRecDepth 100000 in
set_option maxHeartbeats 4000000 in
theorem clone20_calls (t : List NodeV) (ht : t.length ≤ 2 ^ 30) (hw : ∀ n ∈ t, NodeW n) (s : AS) : ACalls Tryd.prog Γ 16 [treeV t] s (fun r s' => ∃ TS, TS.map (·.1) = t ∧ TreeO s s' r TS) := by
  refine acalls_body Tryd.func16 rfl Tryd.ntmps16 Tryd.results16 (by simp) ?_
  have hat := fun i (h : i < t.length) => node_at (t := t) h
  have hnW : ∀ i (h : i < t.length), NodeW (nd t i) := fun i h => by rw [nd_get h]; exact hw _ (List.getElem_mem h)
  have htk : ∀ i (h : i < t.length), t.take (i + 1) = t.take i ++ [nd t i] := fun i h => by rw [List.take_succ_eq_append_getElem h, nd_get h]
  unfold treeV at *
  generalize rowC NodeV.cells t = X at *
  refine wS fun K hK => ?_
  simp only [↓DN,UP,DF,Qa,Qb,Qc,Qd,Qe,Qf,Qg,Qh,reduceCtorEq,↓reduceIte,Na,Nb,Nc,Nk,Nf,Ng,Nh,Za,Zb,Zc,TT]
  refine hK _ _ ?_;clear hK K
  refine wS fun K hK => ?_
  simp only [↓DN,UP,DF,Qa,Qb,Qc,Qd,Qe,Qf,Qg,Qh,reduceCtorEq,↓reduceIte,Na,Nb,Nc,Nk,Nf,Ng,Nh,Za,Zb,Zc,TT]
  refine hK _ _ ?_;clear hK K
  refine wK fun K hK => ?_
  refine wS fun K hK => ?_
  simp only [↓DN,UP,DF,Qa,Qb,Qc,Qd,Qe,Qf,Qg,Qh,reduceCtorEq,↓reduceIte,Na,Nb,Nc,Nk,Nf,Ng,Nh,Za,Zb,Zc,TT]
  refine hK _ _ ?_;clear hK K
  refine awp_block ?_
  refine awp_loop (fun E s2 => ∃ (i : Nat) (x : AV) (TS : List (NodeV × AV)), i ≤ t.length ∧ E 8 = .v (.int .i64 i) ∧ E 7 = .v (.int .i64 t.length) ∧ E 6 = .sl 5 t.length X .any ∧ E 3 = x ∧ TS.map (·.1) = t.take i ∧ TreeO s s2 x TS)
    (fun E _ => match E 8 with | .v (.int _ i) => t.length - i.toNat | _ => 0) ?_ ?_
  · exact ⟨0, _, [], Nat.zero_le _, by simp only [upd, Nc, ↓reduceIte]; rfl, by simp only [upd, Nc, ↓reduceIte], by simp only [upd, Nc, ↓reduceIte], by simp only [upd, Nc, ↓reduceIte]; rfl, rfl, TreeO.nil s⟩
  · rintro E1 s2 ⟨i, x, TS, hi, g8, g7, g6, g3, hT, hx⟩ -
    by_cases hi' : i < t.length
    · refine wS fun K hK => ?_
      simp only [↓DN,UP,DF,Qa,Qb,Qc,Qd,Qe,Qf,Qg,Qh,reduceCtorEq,↓reduceIte,Na,Nb,Nc,Nk,Nf,Ng,Nh,Za,Zb,Zc,TT, g8, g7, eye_lt_nat, decide_eq_true hi']
      refine hK _ _ ?_;clear hK K
      refine wK fun K2 hK2 => ?_
      refine wC fun X Y hX hY => ?_
      simp only [↓DN,UP,DF,Qa,Qb,Qc,Qd,Qe,Qf,Qg,Qh,reduceCtorEq,↓reduceIte,Na,Nb,Nc,Nk,Nf,Ng,Nh,Za,Zb,Zc,TT, DB]
      refine hX ?_;clear hX hY X Y
      refine awp_skip ?_
      refine hK2 _ _ ?_;clear hK2 K2
      refine wK fun K3 hK3 => ?_
      refine awp_block ?_
      have hat' := hat i hi'
      have hN := hnW i hi'
      have hstep := htk i hi'
      generalize nd t i = N at *
      have hTl : TS.length = i := by have := congrArg List.length hT; simp at this; omega
      have hge : (0 : Int) ≤ ((i : Nat) : Int) := by omega
      obtain ⟨nk, nm, ny, npa, nu⟩ := N
      unfold NodeV.cells at hat'
      simp only at hat'
      refine awp_reg_frz 5 (by decide) ?_
      intro K hK
      simp only [↓AXq_nil,↓AXq_cons,pval,DX,Nat.reduceBEq,↓DN,UP,DF,Qa,Qb,Qc,Qd,Qe,Qf,Qg,Qh,reduceCtorEq,↓reduceIte,Na,Nb,Nc,Nk,Nf,Ng,Nh,Za,Zb,Zc,TT, g6, g8, eye_lt_nat, hi', hge, hat', intsV]
      intro o1 h1
      refine hK _ _ o1 _ (by simp only [upd, Nc, ↓reduceIte]) h1 ?_
      clear hK K h1
      refine awp_region_at4 rfl (by decide) ?_
      intro ops
      simp only [↓AXq_nil,↓AXq_cons,pval,DX,Nat.reduceBEq,↓DN,UP,DF,Qa,Qb,Qc,Qd,Qe,Qf,Qg,Qh,reduceCtorEq,↓reduceIte,Na,Nb,Nc,Nk,Nf,Ng,Nh,Za,Zb,Zc,TT, g3]
      refine acallk (nodeCloneB_calls ⟨nk, nm, ny, npa, nu⟩ hN.1 hN.2.1 hN.2.2 _) ?_
      rintro r s3 ⟨xn, rfl, hb, hnew, hle3⟩
      unfold cellsX at *
      simp only [↓AXq_nil,↓AXq_cons,pval,DX,Nat.reduceBEq,↓DN,UP,DF,Qa,Qb,Qc,Qd,Qe,Qf,Qg,Qh,reduceCtorEq,↓reduceIte,Na,Nb,Nc,Nk,Nf,Ng,Nh,Za,Zb,Zc,TT, g3, zrow_quin]
      have hs0 : s2.le s3 := hle3
      have hrow : OBuf 5 s3 x i (rowC cellsX TS) := by
        have := hx.row.le hle3
        rwa [hTl] at this
      have hone : xn.one = true := by
        rcases hb with ⟨_, _, rfl | rfl | rfl⟩ | ⟨_, _, _, rfl, _⟩ <;> rfl
      refine ⟨_, fun G a w hr => append_own_res (n := i) (m := 1) (cs := rowC cellsX TS) (ds := cellsX (⟨nk, nm, ny, npa, nu⟩, xn)) (e := 46) rfl Tryd.underlying24 (by simp only [↓DN,UP,DF,Qa,Qb,Qc,Qd,Qe,Qf,Qg,Qh,reduceCtorEq,↓reduceIte,Na,Nb,Nc,Nk,Nf,Ng,Nh,Za,Zb,Zc,TT]; try rfl) T.z46 (by rw [T.c46]; decide) (by rw [T.c46]; rfl) (by rw [T.c46]; simp only [↓DN,UP,DF,Qa,Qb,Qc,Qd,Qe,Qf,Qg,Qh,reduceCtorEq,↓reduceIte,Na,Nb,Nc,Nk,Nf,Ng,Nh,Za,Zb,Zc,TT, asrc, aeval, upd, Nc, ↓reduceIte]; rfl) (by decide) (by rw [T.b46]; omega) (by omega) (by simp only [cellsX, List.all_cons, List.all_nil, hone]; rfl) (by rw [T.c46]; exact hrow) hr.eval hr.st, ?_⟩
      rw [T.c46]
      rintro r s4 ⟨ob, cap, rest, rfl, hcap, h63, hrl, hob, rfl⟩
      have hob' : s3.objs ob = none ∨ ∃ cap0, x = .osl ob 0 5 TS.length cap0 := by
        rw [hTl]; exact hob
      have hpush := (TreeO.leR hx hle3).push (p := (⟨nk, nm, ny, npa, nu⟩, xn)) (ob := ob) (cap := cap) (rest := rest) hb
        (fun o ho => ⟨AS.le_none hx.le (hnew o ho), (fun q hq e => by obtain ⟨ds, hd⟩ := (hx.xs.buf q hq).some e; rw [hnew o ho] at hd; cases hd), (fun e => by obtain ⟨ds, hd⟩ := hx.row.some e; rw [hnew o ho] at hd; cases hd)⟩)
        hob' (by rw [hTl]; exact hcap) h63 (by rw [hTl]; exact hrl)
      rw [hTl, List.append_assoc] at hpush
      simp only [↓AXq_nil,↓AXq_cons,pval,DX,Nat.reduceBEq,↓DN,UP,DF,Qa,Qb,Qc,Qd,Qe,Qf,Qg,Qh,reduceCtorEq,↓reduceIte,Na,Nb,Nc,Nk,Nf,Ng,Nh,Za,Zb,Zc,TT, g3]
      refine hK3 _ _ ?_;clear hK3 K3
      refine wE fun K hK => ?_
      simp only [↓DN,UP,DF,Qa,Qb,Qc,Qd,Qe,Qf,Qg,Qh,reduceCtorEq,↓reduceIte,Na,Nb,Nc,Nk,Nf,Ng,Nh,Za,Zb,Zc,TT, g8, eye_succM i (by omega)]
      refine hK _ _ ?_;clear hK K
      refine ⟨⟨i + 1, .osl ob 0 5 (i + 1) cap, TS ++ [(⟨nk, nm, ny, npa, nu⟩, xn)], by omega, by simp only [upd, Nc, ↓reduceIte], by simp only [upd, g7, Nc, ↓reduceIte], by simp only [upd, g6, Nc, ↓reduceIte], by simp only [upd, Nc, ↓reduceIte], by rw [List.map_append, hT, hstep]; rfl, hpush⟩, ?_⟩
      simp only [g8, upd, ↓reduceIte]
      omega
    · refine wS fun K hK => ?_
      simp only [↓DN,UP,DF,Qa,Qb,Qc,Qd,Qe,Qf,Qg,Qh,reduceCtorEq,↓reduceIte,Na,Nb,Nc,Nk,Nf,Ng,Nh,Za,Zb,Zc,TT, g8, g7, eye_lt_nat, decide_eq_false hi']
      refine hK _ _ ?_;clear hK K
      refine wK fun K2 hK2 => ?_
      refine wC fun X Y hX hY => ?_
      simp only [↓DN,UP,DF,Qa,Qb,Qc,Qd,Qe,Qf,Qg,Qh,reduceCtorEq,↓reduceIte,Na,Nb,Nc,Nk,Nf,Ng,Nh,Za,Zb,Zc,TT, DB]
      refine hY ?_;clear hX hY X Y
      refine awp_exit ?_
      simp only [thenQ, blockQ, if_true]
      refine hK _ _ ?_;clear hK hK2 K2 K
      obtain rfl : i = t.length := by omega
      refine wS fun K hK => ?_
      simp only [↓DN,UP,DF,Qa,Qb,Qc,Qd,Qe,Qf,Qg,Qh,reduceCtorEq,↓reduceIte,Na,Nb,Nc,Nk,Nf,Ng,Nh,Za,Zb,Zc,TT, g3]
      refine hK _ _ ?_;clear hK K
      refine awp_ret ?_
      try simp only [thenQ, blockQ]
      simp only [retQ, AEnds, aresL, ares, List.toList_toArray, ↓upd_same]; try simp only [UP,DF,Nc,↓reduceIte,DT]
      exact ⟨_, _, AV.weak.refl _, AS.le.refl _, TS, by rw [hT, List.take_length], hx⟩

end Go.Proofs.YtcnilmidfhpckaaDoor


set_option autoImplicit false
namespace Go.AM
open Go Go.RowKit Go.Shelf Go.Proofs

variable {P : Program} {Γ : Nat → List AV} {G : Gh} {s : AS} {w : World} {N : Nat}

theorem SRel.drewN (h : SRel Γ G s w) : ∀ q, SRel Γ G s (w.drewN q)
  | 0 => h
  | q + 1 => (SRel.drewN h q).drew

/-- slices.BinarySearch of a row of numbers that is an object's beginning. -/
theorem search_calls {ρ : Ren} (L : Lays2.n25 P ρ) {x : AV} {l : List Int} (v : Int) (hl : l.length < 2 ^ 62) (hs : l.Pairwise (· ≤ ·)) (hb : OBuf 1 s x l.length (l.map intC)) :
    ACalls P Γ (ρ.f 25) [x, .v (.int .i64 v)] s (fun r s' => r = .tup [.v (.int .i64 ((l.countP (· < v) : Nat) : Int)), .v (.bool (l.contains v))] ∧ s' = s) := by
  intro G w vs hsr hv
  simp only [VRels] at hv
  obtain ⟨u, us, rfl, hx, u2, us2, rfl, h2, rfl⟩ := hv
  simp only [VRel] at h2
  subst h2
  have fin : ∀ q, ∃ G' r v' s', Ending.returned (.tuple #[.int .i64 ((l.countP (· < v) : Nat) : Int), .bool (l.contains v)]) = .returned v' ∧ G.le G' ∧ SRel Γ G' s' (w.drewN q) ∧ VRel G' r v' ∧ (r = .tup [.v (.int .i64 ((l.countP (· < v) : Nat) : Int)), .v (.bool (l.contains v))] ∧ s' = s) := by
    intro q
    refine ⟨G, _, _, s, rfl, .refl G, hsr.drewN q, ?_, rfl, rfl⟩
    simp only [VRel, VRels]
    exact ⟨[_, _], rfl, _, _, rfl, rfl, _, _, rfl, rfl, rfl⟩
  have emp : ∀ a c, l = [] → Calls P (ρ.f 25) #[.slice a 0 c, .int .i64 v] w fun e w' => ∃ G' r v' s', e = .returned v' ∧ G.le G' ∧ SRel Γ G' s' w' ∧ VRel G' r v' ∧ (r = .tup [.v (.int .i64 ((l.countP (· < v) : Nat) : Int)), .v (.bool (l.contains v))] ∧ s' = s) := by
    intro a c h0
    refine (Any.slices_BinarySearch_int_empty L a c v w).mono ?_
    rintro e w' ⟨rfl, rfl⟩
    subst h0
    exact fin 0
  rcases hb with ⟨h0, hl0, hx0⟩ | ⟨o, cap, rest, rfl, ho, hcl, hrl, hnc, h63⟩
  · have hle : l = [] := List.eq_nil_of_length_eq_zero h0
    rcases hx0 with rfl | rfl | rfl
    · simp only [nilS, VRel] at hx
      subst hx
      exact emp _ _ hle
    · simp only [VRel] at hx
      rcases hx with ⟨b, off, cap, vs, rfl, _⟩ | ⟨_, _, a, cap, rfl, _⟩ | ⟨_, _, _, rfl⟩ <;> exact emp _ _ hle
    · simp only [VRel] at hx
      rcases hx with ⟨b, off, cap, vs, rfl, _⟩ | ⟨_, _, a, cap, rfl, _⟩ | ⟨_, _, _, rfl⟩ <;> exact emp _ _ hle
  · simp only [VRel] at hx
    obtain ⟨b, hb1, rfl, _⟩ := hx
    obtain ⟨b', vs, q1, q2, q3, q4⟩ := hsr.objs o _ ho
    rw [hb1] at q1
    cases q1
    have hvt := q2.take (l.map intC).length
    rw [List.take_left] at hvt
    have hvt := VRels.ints_eq hvt
    have hc : ∀ j, j < l.length → w.cell? ⟨b, 0 + j, none⟩ = some (.int .i64 (l.getD j 0)) := by
      intro j hj
      rw [Nat.zero_add]
      refine (q4 j _ ?_).1
      have : (vs.take (l.map intC).length)[j]? = some (intW l[j]) := by rw [hvt]; simp [hj]
      rw [List.getElem?_take] at this
      split at this
      · rw [this]; simp [intW, List.getD, hj]
      · cases this
    refine (Any.slices_BinarySearch_int L b 0 l.length cap l v w (Nat.le_refl _) (by omega) hc (by rw [List.take_length]; exact hs)).mono ?_
    rintro e w' ⟨rfl, q, rfl⟩
    rw [List.take_length]
    exact fin q

end Go.AM


set_option autoImplicit false
namespace Go.Proofs.YtcnilmidfhpckaaDoor
open Go Go.AM Go.Proofs



variable {Γ : Nat → List AV}

def renI : Go.Shelf.Ren := ⟨fun | 21 => 21 | 27 => 38 | 28 => 39 | 35 => 47 | 39 => 51 | n => n, fun | 22 => 44 | n => n, fun n => n⟩
theorem laysI : Lays2.n21 Tryd.prog renI where
  mixed := by kernel_rfl
  f21 := (Tryd.func21).trans (congrArg some (by kernel_rfl))
  f27 := (Tryd.func38).trans (congrArg some (by kernel_rfl))
  f28 := (Tryd.func39).trans (congrArg some (by kernel_rfl))
  f35 := (Tryd.func47).trans (congrArg some (by kernel_rfl))
  f39 := (Tryd.func51).trans (congrArg some (by kernel_rfl))
  t0 := Tryd.underlying0
  a0 := Tryd.isAgg0
  z0 := Tryd.sizeOf0
  v0 := Tryd.zeroValue0
  t3 := Tryd.underlying3
  a3 := Tryd.isAgg3
  z3 := Tryd.sizeOf3
  v3 := Tryd.zeroValue3
  t4 := Tryd.underlying4
  a4 := Tryd.isAgg4
  z4 := Tryd.sizeOf4
  v4 := Tryd.zeroValue4
  t22 := Tryd.underlying44
  a22 := Tryd.isAgg44
  z22 := Tryd.sizeOf44
  v22 := Tryd.zeroValue44
  i3 := by kernel_rfl

def renS : Go.Shelf.Ren := ⟨fun | 25 => 20 | 31 => 36 | 32 => 37 | 37 => 46 | n => n, fun | 22 => 44 | 40 => 69 | n => n, fun n => n⟩
theorem laysS : Lays2.n25 Tryd.prog renS where
  mixed := by kernel_rfl
  f25 := (Tryd.func20).trans (congrArg some (by kernel_rfl))
  f31 := (Tryd.func36).trans (congrArg some (by kernel_rfl))
  f32 := (Tryd.func37).trans (congrArg some (by kernel_rfl))
  f37 := (Tryd.func46).trans (congrArg some (by kernel_rfl))
  t0 := Tryd.underlying0
  a0 := Tryd.isAgg0
  z0 := Tryd.sizeOf0
  v0 := Tryd.zeroValue0
  t3 := Tryd.underlying3
  a3 := Tryd.isAgg3
  z3 := Tryd.sizeOf3
  v3 := Tryd.zeroValue3
  t4 := Tryd.underlying4
  a4 := Tryd.isAgg4
  z4 := Tryd.sizeOf4
  v4 := Tryd.zeroValue4
  t22 := Tryd.underlying44
  a22 := Tryd.isAgg44
  z22 := Tryd.sizeOf44
  v22 := Tryd.zeroValue44
  t40 := Tryd.underlying69
  a40 := Tryd.isAgg69
  z40 := Tryd.sizeOf69
  v40 := Tryd.zeroValue69

theorem search20_calls {x : AV} {l : List Int} (v : Int) (hl : l.length < 2 ^ 62) (hs : l.Pairwise (· ≤ ·)) {s : AS} (hb : OBuf 1 s x l.length (l.map intC)) :
    ACalls Tryd.prog Γ 20 [x, .v (.int .i64 v)] s (fun r s' => r = .tup [.v (.int .i64 ((l.countP (· < v) : Nat) : Int)), .v (.bool (l.contains v))] ∧ s' = s) :=
  search_calls laysS v hl hs hb

end Go.Proofs.YtcnilmidfhpckaaDoor


