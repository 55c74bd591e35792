/- Contracts of the program's functions, each walked once; the conditions stand in each theorem. -/
import Derived.Test.YtfjlmkifiihgkaaGreatDoorAMp6
import Derived.Test.YtfjlmkifiihgkaaGreatDoorW1
import Derived.Test.YtfjlmkifiihgkaaGreatDoorW10
import Derived.Test.YtfjlmkifiihgkaaGreatDoorRows
import Derived.Test.YtfjlmkifiihgkaaGreatDoorW6
import Derived.ProofKit
import Derived.LaidMore
import Derived.MakeChecks
import Derived.OpenShut
set_option linter.unusedSimpArgs false
set_option linter.unusedVariables false
open Nat renaming reduceLT → Na, reduceLeDiff → Nb, reduceEqDiff → Nc, reduceAdd → Nk, reduceMul → Nf, reducePow → Ng, reduceSub → Nh, reduceBEq → Nz
open Int renaming reduceLT → Za, reduceLE → Zb, reduceToNat → Zc
open And renaming intro → Ai
open Go.AM renaming ashift → Qa, aconv → Qb, aindexAddr → Qc, aindex → Qd, aslice → Qe, abuiltin → Qf, awp_reg_seq → wS, awp_reg_end → wE, awp_seq_k → wK, awp_cond_k → wC
open Go.AM.AV renaming cells → Qg, one → Qh
set_option maxRecDepth 100000
set_option maxHeartbeats 8000000
set_option autoImplicit false
namespace Go.Proofs.YtfjlmkifiihgkaaGreatDoor
open Go Go.AM Go.Proofs
variable {Γ : Nat→List AV}
theorem foldedNil_calls (t : List NodeV) (sd : Int) (s : AS) : ACalls Tryz.prog Γ 89 [treeV t,.v (.int .i64 sd),.sl 5 0 [] .any] s (fun r s'=>r = .tup [treeV t,intsV [] .any,.v (.bool true)]∧s' = s):=by
 refine acalls_body Tryz.func89 rfl Tryz.ntmps89 Tryz.results89 (by simp) ?_
 have hat:=fun (i : Nat) (h : i < 3)=>eat_int (l:=[2,3,1]) (i:=i) h
 have hcs : [AV.v (.int .i64 2),.v (.int .i64 3),.v (.int .i64 1)] = [2,3,1].map intC:=rfl
 generalize hks : [2,3,1].map intC = KS at *
 unfold treeV intsV
 generalize rowC NodeV.cells t = X
 refine jA ?_
 refine jA ?_
 refine jA ?_
 refine wK fun K hK=>?_
 refine jA ?_
 refine awp_block ?_
 refine awp_loop (fun E s2=>∃ i : Nat,i≤3∧E 22 = .v (.int .i64 i)∧E 21 = .v (.int .i64 3)∧E 20 = .sl 1 3 KS .new∧E 0 = .sl 5 t.length X .any∧E 9 = .v (.slice none 0 0)∧E 2 = .sl 5 0 [] .any∧s2 = s)
  (fun E _=>match E 22 with | .v (.int _ i)=>3 - i.toNat | _=>0) ?_ ?_
 ·refine ⟨0,by decide,by simp only [upd,Nc,↓reduceIte]; rfl,by simp only [upd,Nc,↓reduceIte]; rfl,?_,by simp only [upd,initE,List.getD_cons_zero,List.getD_cons_succ,Nc,↓reduceIte],by simp only [upd,Nc,↓reduceIte],by simp only [upd,initE,List.getD_cons_zero,List.getD_cons_succ,Nc,↓reduceIte],rfl⟩
  simp only [upd,Nc,↓reduceIte]
  rw [← hcs]
  rfl
 ·rintro E1 s4 ⟨i,hi,g22,g21,g20,g0,g9,g2,rfl⟩ -
  by_cases hi' : i < 3
  ·refine jB (Ai @g22 (Ai @g21 (decide_eq_true (show ((i : Nat) : Int) < 3 by omega)))) ?_
   refine wK fun K2 hK2=>?_
   refine jE ?_
   refine awp_skip ?_
   refine hK2 _ _ ?_;clear hK2 K2
   refine wK fun K3 hK3=>?_
   refine awp_block ?_
   have hge : (0 : Int)≤(i : Int):=by omega
   have hlt3 : decide ((i : Int) < 3) = true:=decide_eq_true (by omega)
   have hat':=hat i hi'
   refine jB (Ai @g20 (Ai @g22 (Ai @hge (Ai @hi' (Ai @hat' @eye_lt_nat))))) ?_
   refine jB @g2 ?_
   refine awp_block ?_
   refine awp_loop (fun E s2=>E 28 = .v (.int .i64 0)∧E 27 = .v (.int .i64 (0 : Nat))∧E 22 = .v (.int .i64 i)∧E 21 = .v (.int .i64 3)∧E 20 = .sl 1 3 KS .new∧E 0 = .sl 5 t.length X .any∧E 9 = .v (.slice none 0 0)∧E 2 = .sl 5 0 [] .any∧s2 = s4)
    (fun E _=>0) ?_ ?_
   ·exact ⟨by simp only [upd,Nc,↓reduceIte],by simp only [upd,Nc,↓reduceIte],by simp only [upd,g22,Nc,↓reduceIte],by simp only [upd,g21,Nc,↓reduceIte],by simp only [upd,g20,Nc,↓reduceIte],by simp only [upd,g0,Nc,↓reduceIte],by simp only [upd,g9,Nc,↓reduceIte],by simp only [upd,g2,Nc,↓reduceIte],rfl⟩
   ·rintro E2 s5 ⟨g28,g27,k22,k21,k20,k0,k9,k2,rfl⟩ -
    refine jB (Ai @g28 (Ai @g27 (show decide ((0 : Int) < ((0 : Nat) : Int)) = false from rfl))) ?_
    refine wK fun K5 hK5=>?_
    refine jF ?_
    refine awp_exit ?_
    simp only [thenQ,blockQ,if_true,if_false,Nc]
    refine hK3 _ _ ?_;clear hK3 K3 hK5 K5
    refine jD (Ai @k22 (eye_succM i (by omega))) ?_
    refine ⟨⟨i + 1,by omega,by simp only [upd,Nc,↓reduceIte],by simp only [upd,k21,Nc,↓reduceIte],by simp only [upd,k20,Nc,↓reduceIte],by simp only [upd,k0,Nc,↓reduceIte],by simp only [upd,k9,Nc,↓reduceIte],by simp only [upd,k2,Nc,↓reduceIte],rfl⟩,?_⟩
    simp only [g22,upd,↓reduceIte]
    omega
  ·refine jB (Ai @g22 (Ai @g21 (decide_eq_false (show ¬ ((i : Nat) : Int) < 3 by omega)))) ?_
   refine wK fun K2 hK2=>?_
   refine jF ?_
   refine awp_exit ?_
   simp only [thenQ,blockQ,if_true]
   refine hK _ _ ?_;clear hK hK2 K2 K
   refine jB (Ai @g0 @g9) ?_
   refine jI ?_
   exact ⟨_,_,AV.weak_tup3 (AV.weak.refl _) AV.weak_nil (AV.weak.refl _),AS.le.refl _,rfl,rfl⟩
def pubFoldT (S : StV) (C : CommitV) (F : List NodeV × List Int × Bool) : List NodeV × List Int × Int :=
 if ¬ (S.right∧C.right) then ([],[],12) else
 if C.group≠S.group then ([],[],41) else
 if C.epoch≠S.epoch then ([],[],42) else
 if S.epoch = 1048576 then ([],[],47) else
 if ¬ memI S.tree C.sender then ([],[],43) else
 if F.2.2 = true then (F.1,F.2.1,0) else ([],[],44)
theorem tupN_weak (e : Int) : (AV.tup [.v (.slice none 0 0),.v (.slice none 0 0),.v (.int .i64 e)]).weak (.tup [treeN [],intsV [] .any,.v (.int .i64 e)]) :=
 AV.weak_tup3 (by rw [show treeN [] = nilS from if_pos rfl]; exact AV.weak.refl _) AV.weak_nil (AV.weak.refl _)
theorem pubFold_calls (hG : Γ 3 = dB64.map u8C) (S : StV) (ht : S.wf) (C : CommitV) (hf : CommitV.fits C) (F : List NodeV × List Int × Bool)
  (hF : S.right→C.right→memI S.tree C.sender→∀ s,ACalls Tryz.prog Γ 89 [treeV S.tree,.v (.int .i64 C.sender),.sl 5 C.props.length (rowC PropV.cells C.props) .any] s (fun r s'=>r = .tup [if F.2.2 = true then treeV F.1 else nilS,intsV F.2.1 .any,.v (.bool F.2.2)]∧s' = s))
  (hR : S.right→C.right→memI S.tree C.sender→F.2.2 = true→rightT F.1) (s : AS) :
  ACalls Tryz.prog Γ 28 [.agg S.cells,.agg C.cells] s (fun r s'=>r = .tup [treeN (pubFoldT S C F).1,intsV (pubFoldT S C F).2.1 .any,.v (.int .i64 (pubFoldT S C F).2.2)]∧s' = s):=by
 refine acalls_body Tryz.func28 rfl Tryz.ntmps28 Tryz.results28 (by simp) ?_
 have h1:=fun s=>pubRight_calls (Γ:=Γ) hG S ht s
 have h2:=fun s=>mright_calls (Γ:=Γ) C hf s
 have h3:=fun s=>bytesEqual_calls (Γ:=Γ) C.group S.group s
 have hx1 : ¬ S.right→pubFoldT S C F = ([],[],12):=fun h=>if_pos fun k=>h k.1
 have hx2 : ¬ C.right→pubFoldT S C F = ([],[],12):=fun h=>if_pos fun k=>h k.2
 have hx3 : S.right→C.right→C.group≠S.group→pubFoldT S C F = ([],[],41):=fun a b h=>by unfold pubFoldT; rw [if_neg (fun k=>k ⟨a,b⟩),if_pos h]
 have hx4 : S.right→C.right→C.group = S.group→C.epoch≠S.epoch→pubFoldT S C F = ([],[],42):=fun a b c h=>by unfold pubFoldT; rw [if_neg (fun k=>k ⟨a,b⟩),if_neg (fun k=>k c),if_pos h]
 have hx5 : S.right→C.right→C.group = S.group→C.epoch = S.epoch→S.epoch = 1048576→pubFoldT S C F = ([],[],47):=fun a b c d h=>by unfold pubFoldT; rw [if_neg (fun k=>k ⟨a,b⟩),if_neg (fun k=>k c),if_neg (fun k=>k d),if_pos h]
 have hx6 : S.right→C.right→C.group = S.group→C.epoch = S.epoch→S.epoch≠1048576→¬ memI S.tree C.sender→pubFoldT S C F = ([],[],43):=fun a b c d e h=>by unfold pubFoldT; rw [if_neg (fun k=>k ⟨a,b⟩),if_neg (fun k=>k c),if_neg (fun k=>k d),if_neg e,if_pos h]
 have hx7 : S.right→C.right→C.group = S.group→C.epoch = S.epoch→S.epoch≠1048576→memI S.tree C.sender→F.2.2 = true→pubFoldT S C F = (F.1,F.2.1,0):=fun a b c d e f h=>by unfold pubFoldT; rw [if_neg (fun k=>k ⟨a,b⟩),if_neg (fun k=>k c),if_neg (fun k=>k d),if_neg e,if_neg (fun k=>k f),if_pos h]
 have hx8 : S.right→C.right→C.group = S.group→C.epoch = S.epoch→S.epoch≠1048576→memI S.tree C.sender→F.2.2 = false→pubFoldT S C F = ([],[],44):=fun a b c d e f h=>by unfold pubFoldT; rw [if_neg (fun k=>k ⟨a,b⟩),if_neg (fun k=>k c),if_neg (fun k=>k d),if_neg e,if_neg (fun k=>k f),if_neg (by rw [h]; decide)]
 have hrc : C.right→0≤C.sender∧C.sender < 32:=fun h=>h.2.2.2.1
 have hrt : S.right→rightT S.tree:=fun h=>h.2.2.2.1
 obtain ⟨FT,FL,FB⟩:=F
 simp only at hF hR hx7 hx8
 generalize pubFoldT S C (FT,FL,FB) = PT at *
 obtain ⟨PT1,PT2,PT3⟩:=PT
 by_cases hS : S.right
 ·by_cases hC : C.right
  ·have hC1:=hrc hC
   have hS1:=hrt hS
   rw [decide_eq_true hS] at h1
   rw [decide_eq_true hC] at h2
   replace hx3:=hx3 hS hC
   replace hx4:=hx4 hS hC
   replace hx5:=hx5 hS hC
   replace hx6:=hx6 hS hC
   replace hx7:=hx7 hS hC
   replace hx8:=hx8 hS hC
   replace hF:=hF hS hC
   replace hR:=hR hS hC
   clear hx1 hx2 hrc hrt hf ht
   clear hS hC
   obtain ⟨cg,ce,cs,cp,ch,cpa,cc,cm⟩:=C
   obtain ⟨sg,se,st,sc,si⟩:=S
   unfold CommitV.cells StV.cells at *
   simp only at *
   have hatN:=fun (i : Nat) (h : i < st.length)=>node_at (t:=st) h
   unfold treeV at hF
   unfold treeV bytesV at *
   generalize rowC NodeV.cells st = X at *
   generalize rowC PropV.cells cp = CP at *
   generalize rowC StepV.cells cpa.steps = CS at *
   refine awp_reg_frz2 2 3 (by decide) (by decide) (by decide) ?_
   intro K hK
   simp only [↓DM,pval,DX,Nz,↓DN,Qa,Qb,Qc,Qd,Qe,Qf,Qg,Qh,reduceCtorEq,↓reduceIte,Na,Nb,Nc,Nk,Nf,Ng,Nh,Za,Zb,Zc,TT]
   intro o1 q1 o2 q2
   refine hK _ _ o1 o2 _ _ (by simp only [upd,Nc,↓reduceIte]) (by simp only [upd,Nc,↓reduceIte]) q1 (by rw [AS.set_objs_eq]; exact q2) ?_
   clear hK K q1 q2
   refine wK fun K hK=>?_
   refine awp_block ?_
   refine jQ fun K hK=>?_
   refine acallk (h1 _) ?_
   rintro r s1 ⟨rfl,rfl⟩
   simp only [↓DM,pval,DX,Nz,↓DN,Qa,Qb,Qc,Qd,Qe,Qf,Qg,Qh,reduceCtorEq,↓reduceIte,Na,Nb,Nc,Nk,Nf,Ng,Nh,Za,Zb,Zc,TT]
   refine acallk (h2 _) ?_
   rintro r s2 ⟨rfl,rfl⟩
   refine jR hK ?_;clear hK K
   refine jF ?_
   by_cases hg : cg = sg
   ·rw [decide_eq_true hg] at h3
    refine jK (h3 _) ?_;rintro s3 rfl
    refine jF ?_
    by_cases he : ce = se
    ·refine jB (int_bne_false he) ?_
     refine jF ?_
     by_cases h47 : se = 1048576
     ·cases hx5 hg he h47
      refine jB (int_eq_yes h47) ?_
      refine jE ?_
      refine jA ?_
      refine jI ?_
      exact ⟨_,_,tupN_weak _,AS.le.refl _,rfl,rfl⟩
     ·refine jB (int_eq_no h47) ?_
      refine jF ?_
      obtain ⟨n,rfl⟩:=Int.eq_ofNat_of_zero_le hC1.1
      have hmr : memI st (n : Int)↔2 * n < st.length∧(nd st (2 * n)).kind = 1:=by
       rw [← memR_right hS1]
       unfold memR
       rw [Int.toNat_natCast]
       exact ⟨fun h=>⟨by omega,h.2.2⟩,fun h=>⟨by omega,by omega,h.2⟩⟩
      have hge : (0 : Int)≤((2 * n : Nat) : Int):=by omega
      by_cases hm : memI st (n : Int)
      ·obtain ⟨m1,m2⟩:=hmr.1 hm
       have hat:=hatN _ m1
       generalize nd st (2 * n) = N at *
       obtain ⟨nk,nm,ny,np,nu⟩:=N
       unfold NodeV.cells bytesV at hat
       simp only at m2
       subst m2
       replace hF:=hF hm
       replace hR:=hR hm
       refine jB (Ai (imul2_nat n (by omega)) (Ai @eye_lt_nat (Ai @m1 (Ai @hge (Ai @hat (Ai (decide_eq_false (show ¬ (st.length : Int)≤((2 * n : Nat) : Int) by omega)) (show ((1 : Int) != 1) = false from rfl))))))) ?_
       refine jF ?_
       refine awp_skip ?_
       refine hK _ _ ?_;clear hK K
       refine jK (hF _) ?_;rintro s4 rfl
       refine wK fun K hK=>?_
       cases FB with
       | true =>
        cases hx7 hg he h47 hm rfl
        have hrF:=hR rfl
        have hclo:=fun s=>clone20V_calls (Γ:=Γ) FT (by have:=hrF.len; have:=this.2.le; omega) (fun q hq=>by have:=right_small (hrF.nodes hq); unfold NodeW; omega) s
        rw [treeN_ne (right_ne hrF)] at hK
        simp only [if_true]
        unfold treeV intsV at *
        refine jA ?_
        refine jF ?_
        refine awp_skip ?_
        refine hK _ _ ?_;clear hK K
        refine jK (hclo _) ?_;rintro s5 rfl
        exact jJ
       | false =>
        cases hx8 hg he h47 hm rfl
        refine jA ?_
        refine jE ?_
        refine jA ?_
        refine jI ?_
        exact ⟨_,_,tupN_weak _,AS.le.refl _,rfl,rfl⟩
      ·cases hx6 hg he h47 hm
       by_cases m1 : 2 * n < st.length
       ·have m2 : (nd st (2 * n)).kind≠1:=fun q=>hm (hmr.2 ⟨m1,q⟩)
        have hat:=hatN _ m1
        generalize nd st (2 * n) = N at *
        obtain ⟨nk,nm,ny,np,nu⟩:=N
        unfold NodeV.cells bytesV at hat
        simp only at m2
        refine jB (Ai (imul2_nat n (by omega)) (Ai @eye_lt_nat (Ai @m1 (Ai @hge (Ai @hat (Ai (decide_eq_false (show ¬ (st.length : Int)≤((2 * n : Nat) : Int) by omega)) (int_bne_true m2))))))) ?_
        refine jE ?_
        refine jA ?_
        refine jI ?_
        exact ⟨_,_,tupN_weak _,AS.le.refl _,rfl,rfl⟩
       ·refine jB (Ai (imul2_nat n (by omega)) (decide_eq_true (show (st.length : Int)≤((2 * n : Nat) : Int) by omega))) ?_
        refine jE ?_
        refine jA ?_
        refine jI ?_
        exact ⟨_,_,tupN_weak _,AS.le.refl _,rfl,rfl⟩
    ·cases hx4 hg he
     refine jB (int_bne_true he) ?_
     refine jE ?_
     refine jA ?_
     refine jI ?_
     exact ⟨_,_,tupN_weak _,AS.le.refl _,rfl,rfl⟩
   ·cases hx3 hg
    rw [decide_eq_false hg] at h3
    refine jK (h3 _) ?_;rintro s3 rfl
    refine jE ?_
    refine jA ?_
    refine jI ?_
    exact ⟨_,_,tupN_weak _,AS.le.refl _,rfl,rfl⟩
  ·cases hx2 hC
   rw [decide_eq_true hS] at h1
   rw [decide_eq_false hC] at h2
   clear hx1 hx2 hx3 hx4 hx5 hx6 hx7 hx8 hF hR hrc hrt hf ht hS hC h3
   obtain ⟨cg,ce,cs,cp,ch,cpa,cc,cm⟩:=C
   obtain ⟨sg,se,st,sc,si⟩:=S
   unfold CommitV.cells StV.cells at *
   simp only at *
   unfold treeV bytesV at *
   generalize rowC NodeV.cells st = X at *
   generalize rowC PropV.cells cp = CP at *
   generalize rowC StepV.cells cpa.steps = CS at *
   refine awp_reg_frz2 2 3 (by decide) (by decide) (by decide) ?_
   intro K hK
   simp only [↓DM,pval,DX,Nz,↓DN,Qa,Qb,Qc,Qd,Qe,Qf,Qg,Qh,reduceCtorEq,↓reduceIte,Na,Nb,Nc,Nk,Nf,Ng,Nh,Za,Zb,Zc,TT]
   intro o1 q1 o2 q2
   refine hK _ _ o1 o2 _ _ (by simp only [upd,Nc,↓reduceIte]) (by simp only [upd,Nc,↓reduceIte]) q1 (by rw [AS.set_objs_eq]; exact q2) ?_
   clear hK K q1 q2
   refine wK fun K hK=>?_
   refine awp_block ?_
   refine jQ fun K hK=>?_
   refine acallk (h1 _) ?_
   rintro r s1 ⟨rfl,rfl⟩
   simp only [↓DM,pval,DX,Nz,↓DN,Qa,Qb,Qc,Qd,Qe,Qf,Qg,Qh,reduceCtorEq,↓reduceIte,Na,Nb,Nc,Nk,Nf,Ng,Nh,Za,Zb,Zc,TT]
   refine acallk (h2 _) ?_
   rintro r s2 ⟨rfl,rfl⟩
   refine jR hK ?_;clear hK K
   refine jE ?_
   refine jA ?_
   refine jI ?_
   exact ⟨_,_,tupN_weak _,AS.le.refl _,rfl,rfl⟩
 ·cases hx1 hS
  rw [decide_eq_false hS] at h1
  clear hx1 hx2 hx3 hx4 hx5 hx6 hx7 hx8 hF hR hrc hrt hf ht hS h3 h2
  obtain ⟨cg,ce,cs,cp,ch,cpa,cc,cm⟩:=C
  obtain ⟨sg,se,st,sc,si⟩:=S
  unfold CommitV.cells StV.cells at *
  simp only at *
  unfold treeV bytesV at *
  generalize rowC NodeV.cells st = X at *
  generalize rowC PropV.cells cp = CP at *
  generalize rowC StepV.cells cpa.steps = CS at *
  refine awp_reg_frz2 2 3 (by decide) (by decide) (by decide) ?_
  intro K hK
  simp only [↓DM,pval,DX,Nz,↓DN,Qa,Qb,Qc,Qd,Qe,Qf,Qg,Qh,reduceCtorEq,↓reduceIte,Na,Nb,Nc,Nk,Nf,Ng,Nh,Za,Zb,Zc,TT]
  intro o1 q1 o2 q2
  refine hK _ _ o1 o2 _ _ (by simp only [upd,Nc,↓reduceIte]) (by simp only [upd,Nc,↓reduceIte]) q1 (by rw [AS.set_objs_eq]; exact q2) ?_
  clear hK K q1 q2
  refine wK fun K hK=>?_
  refine awp_block ?_
  refine jK (h1 _) ?_;rintro s1 rfl
  refine jE ?_
  refine jA ?_
  refine jI ?_
  exact ⟨_,_,tupN_weak _,AS.le.refl _,rfl,rfl⟩
theorem needsNil_calls (C : CommitV) (h0 : C.props = []) (s : AS) : ACalls Tryz.prog Γ 91 [.agg C.cells] s (fun r s'=>r = .v (.bool true)∧s' = s):=by
 refine acalls_body Tryz.func91 rfl Tryz.ntmps91 Tryz.results91 (by simp) ?_
 obtain ⟨cg,ce,cs,cp,ch,cpa,cc,cm⟩:=C
 simp only at h0
 subst h0
 unfold CommitV.cells bytesV
 simp only
 generalize rowC StepV.cells cpa.steps = CS at *
 have hr0 : rowC PropV.cells [] = []:=rfl
 rw [hr0]
 refine awp_reg_frz 1 (by decide) ?_
 intro K hK
 simp only [↓DM,pval,DX,Nz,↓DN,Qa,Qb,Qc,Qd,Qe,Qf,Qg,Qh,reduceCtorEq,↓reduceIte,Na,Nb,Nc,Nk,Nf,Ng,Nh,Za,Zb,Zc,TT]
 intro o ho
 refine hK _ _ o _ (by simp only [upd,Nc,↓reduceIte]) ho ?_
 clear hK K ho
 refine jB (show (((0 : Nat) : Int) == 0) = true from rfl) ?_
 exact jJ
theorem nextBare_calls (hG : Γ 3 = dB64.map u8C) (S : StV) (ht : S.wf) (C : CommitV) (hf : CommitV.fits C) (h0 : C.props = []) (hp : C.hasPath = false) (hT : pubFoldT S C (S.tree,[],true) = (S.tree,[],0)) (s : AS) :
  ACalls Tryz.prog Γ 30 [.agg S.cells,.agg C.cells] s (fun r s'=>r = .tup [.agg StV.nought.cells,intsV [] .any,.v (.int .i64 45)]∧s' = s):=by
 refine acalls_body Tryz.func30 rfl Tryz.ntmps30 Tryz.results30 (by simp) ?_
 have h1:=fun s=>pubFold_calls (Γ:=Γ) hG S ht C hf (S.tree,[],true) (fun _ _ _ s=>by
  rw [h0]
  exact foldedNil_calls (Γ:=Γ) S.tree C.sender s) (fun h _ _ _=>h.2.2.2.1) s
 rw [hT] at h1
 have h2:=fun s=>needsNil_calls (Γ:=Γ) C h0 s
 simp only at h1
 clear hT ht hf
 obtain ⟨cg,ce,cs,cp,ch,cpa,cc,cm⟩:=C
 simp only at h0 hp
 subst h0 hp
 obtain ⟨sg,se,st,sc,si⟩:=S
 unfold CommitV.cells StV.cells at *
 simp only at *
 generalize treeN st = TN at *
 unfold treeV bytesV intsV at *
 generalize rowC NodeV.cells st = X at *
 generalize rowC StepV.cells cpa.steps = CS at *
 have hr0 : rowC PropV.cells [] = []:=rfl
 rw [hr0] at *
 refine awp_reg_frz2 2 3 (by decide) (by decide) (by decide) ?_
 intro K hK
 simp only [↓DM,pval,DX,Nz,↓DN,Qa,Qb,Qc,Qd,Qe,Qf,Qg,Qh,reduceCtorEq,↓reduceIte,Na,Nb,Nc,Nk,Nf,Ng,Nh,Za,Zb,Zc,TT]
 intro o1 q1 o2 q2 o3 q3
 obtain ⟨e3,r1,r2,r3⟩:=AS.set_three s q1 q2 q3 [.v (.slice none 0 0),.v (.int .i64 0),.v (.slice none 0 0),.v (.slice none 0 0),.v (.slice none 0 0)]
 rw [e3]
 refine hK _ _ o1 o2 _ _ (by simp only [upd,Nc,↓reduceIte]) (by simp only [upd,Nc,↓reduceIte]) r1 r2 ?_
 clear hK K q1 q2 q3 e3 r1 r2
 refine jK (h1 _) ?_;rintro s1 rfl
 refine wK fun K hK=>?_
 refine awp_block ?_
 refine jB (show ((0 : Int) != 0) = false from rfl) ?_
 refine jF ?_
 refine jK (h2 _) ?_;rintro s2 rfl
 refine jE ?_
 refine jB @AS.set_objs_same ?_
 refine awp_ret ?_
 refine aends_cell_tmp2 (o:=o3) (off:=0) (by simp only [upd,Nc,↓reduceIte]) (AS.set_objs_same _ _ _) (by rw [T.c48]; decide) (by simp only [↓DN,Qa,Qb,Qc,Qd,Qe,Qf,Qg,Qh,reduceCtorEq,↓reduceIte,Na,Nb,Nc,Nk,Nf,Ng,Nh,Za,Zb,Zc,TT]; rfl) ?_
 exact ⟨_,s,AV.weak_tup3 noughtS_weak AV.weak_nil (AV.weak.refl _),AS.le_set (AS.le.refl _) r3 _,rfl,rfl⟩
def stA : StV:=(firstT [103] [97] 9).1
def cA : CommitV:=⟨[103],0,0,[],false,⟨0,[],[]⟩,zeros32,zeros32⟩
theorem cA_right : cA.right:=by decide +kernel
theorem cA_fits : CommitV.fits cA:=⟨by decide,by decide,(by intro x hx; cases hx)⟩
theorem lA_right : (leafN [97] 9).right:=by decide +kernel
theorem stA_eq : firstT [103] [97] 9 = (⟨[103],0,[leafN [97] 9],zeros32,Sha.sum (zeros32 ++ zeros32)⟩,0):=if_pos ⟨lA_right,by decide⟩
theorem stA_right : stA.right:=by
 unfold stA
 rw [stA_eq]
 exact ⟨by decide,by decide,by decide,new_right lA_right,by decide,Sha.sum_length _⟩
theorem stA_fold : pubFoldT stA cA (stA.tree,[],true) = (stA.tree,[],0):=by
 have hm : memI stA.tree 0:=by unfold stA; rw [stA_eq]; decide +kernel
 have e1 : stA.group = [103]:=by unfold stA; rw [stA_eq]
 have e2 : stA.epoch = 0:=by unfold stA; rw [stA_eq]
 unfold pubFoldT
 rw [if_neg (fun k=>k ⟨stA_right,cA_right⟩),if_neg (fun k=>k e1.symm),if_neg (fun k=>k e2.symm),if_neg (by rw [e2]; decide),if_neg (fun k=>k hm),if_pos rfl]
theorem awake24_calls (hG0 : Γ 0 = stC Sha.H0) (hG1 : Γ 1 = Sha.K.map wV) (hG : Γ 3 = dB64.map u8C) (s : AS) : ACalls Tryz.prog Γ 25 [] s (fun r s'=>r = .v (.bool true)∧s' = s):=by
 refine acalls_body Tryz.func25 rfl Tryz.ntmps25 Tryz.results25 (by simp) ?_
 have h1:=fun s=>pubFirst_calls (Γ:=Γ) hG0 hG1 [103] [97] 9 (by decide) (by decide) s
 have h2:=fun s=>nextBare_calls (Γ:=Γ) hG stA (fold_W stA_right.2.2.2.1) cA cA_fits rfl rfl stA_fold s
 have hst : (firstT [103] [97] 9).1 = stA:=rfl
 have he : (firstT [103] [97] 9).2 = 0:=by rw [stA_eq]
 rw [hst,he] at h1
 have e2 : stA.epoch = 0:=by unfold stA; rw [stA_eq]
 have e5 : stA.inter.length = 32:=stA_right.2.2.2.2.2
 have hzm:=zeros32_map
 have hcA : cA.cells = [.sl 1 1 [.v (.int .u8 103)] .any,.v (.int .i64 0),.v (.int .i64 0),.sl 5 0 [] .any,.v (.bool false),.v (.int .u64 0),.sl 1 0 [] .any,.sl 2 0 [] .any,.sl 1 32 (zeros32.map byteV) .any,.sl 1 32 (zeros32.map byteV) .any]:=rfl
 rw [hcA] at h2
 have hnc : StV.nought.cells = [.sl 1 0 [] .any,.v (.int .i64 0),.sl 5 0 [] .any,.sl 1 0 [] .any,.sl 1 0 [] .any]:=rfl
 rw [hnc] at h2
 generalize stA = S at *
 obtain ⟨sg,se,st,sc,si⟩:=S
 simp only at e2 e5
 subst e2
 unfold StV.cells at *
 simp only at *
 unfold treeV bytesV intsV at *
 rw [e5] at *
 generalize zeros32.map byteV = Z at *
 generalize rowC NodeV.cells st = X at *
 have hrep1 : ∀ x : AV,List.replicate 1 x = [x]:=fun _=>rfl
 refine jA ?_
 refine awp_reg_frz 1 (by decide) ?_
 intro K hK
 simp only [↓DM,pval,DX,Nz,↓DN,Qa,Qb,Qc,Qd,Qe,Qf,Qg,Qh,reduceCtorEq,↓reduceIte,Na,Nb,Nc,Nk,Nf,Ng,Nh,Za,Zb,Zc,TT,hrep1]
 refine acallk (ACalls.weaks (.cons AV.weak_any (.cons AV.weak_any (.cons (AV.weak.refl _) .nil))) (h1 _)) ?_
 rintro r s1 ⟨rfl,rfl⟩
 simp only [↓DM,pval,DX,Nz,↓DN,Qa,Qb,Qc,Qd,Qe,Qf,Qg,Qh,reduceCtorEq,↓reduceIte,Na,Nb,Nc,Nk,Nf,Ng,Nh,Za,Zb,Zc,TT]
 intro o1 q1
 refine hK _ _ o1 _ (by simp only [upd,Nc,↓reduceIte]) q1 ?_
 clear hK K q1
 refine awp_drf_seq T.mixed [11,12] [(3,32),(4,32)] [(6,.tup [.agg [.sl 1 0 [] .any,.v (.int .i64 0),.sl 5 0 [] .any,.sl 1 0 [] .any,.sl 1 0 [] .any],.sl 1 0 [] .any,.v (.int .i64 45)])] [11] (by kernel_rfl) ?_
 intro K hK
 simp only [↓AXz_nil,↓AXz_cons,↓AGiv_call,glook_nil,glook_cons,glookN_nil,glookN_cons,noughtV,pval,DX,Nat.reduceBEq,List.toList_toArray,List.map_cons,List.map_nil,aeval,↓DN,Qa,Qb,Qc,Qd,Qe,Qf,Qg,Qh,reduceCtorEq,↓reduceIte,Na,Nb,Nc,Nk,Nf,Ng,Nh,Za,Zb,Zc,TT,hrep1,hzm]
 refine agivk (fun s=>ACalls.weaks (.cons (AV.weak.refl _) (.cons (AV.weak_agg (.cons AV.weak_any (.cons (AV.weak.refl _) (.cons (AV.weak.refl _) (.cons AV.weak_nil (.cons (AV.weak.refl _) (.cons (AV.weak.refl _) (.cons AV.weak_nil (.cons AV.weak_nil (.cons AV.weak_any (.cons AV.weak_any .nil))))))))))) .nil)) (h2 s)) ?_
 intro o3 q3
 refine hK _ _ ?_;clear hK K
 refine jB (Ai (show ((0 : Int) == 0) = true from rfl) (Ai (show (((32 : Nat) : Int) == 32) = true from rfl) (show ((45 : Int) == 45) = true from rfl))) ?_
 refine jI ?_
 exact ⟨_,_,AV.weak.refl _,AS.le_set (AS.le.refl _) q3 _,rfl,rfl⟩
end Go.Proofs.YtfjlmkifiihgkaaGreatDoor
namespace Go.Proofs.YtfjlmkifiihgkaaGreatDoor
open Go Go.AM Go.Proofs
variable {Γ : Nat→List AV}
theorem firstT_W (g n : List UInt8) (k : Nat) : (firstT g n k).1.wf:=by
 unfold firstT
 split
 ·rename_i h
  exact fold_W (new_right h.1)
 ·exact nought_W
theorem bneI (a : Int) : (a == a) = true:=by simp
theorem publicReads_calls (hG0 : Γ 0 = stC Sha.H0) (hG1 : Γ 1 = Sha.K.map wV) (hG : Γ 3 = dB64.map u8C) (b g n : List UInt8) (s : AS) :
  ACalls Tryz.prog Γ 7 [bytesV b .any,bytesV g .any,bytesV n .any] s (fun r s'=>r = .v (.bool true)):=by
 refine acalls_body Tryz.func7 rfl Tryz.ntmps7 Tryz.results7 (by simp) ?_
 have haw:=fun s=>awake24_calls (Γ:=Γ) hG0 hG1 hG s
 rcases tt3 (decide ((3000 : Int) < (b.length : Int))) (decide ((40 : Int) < (g.length : Int))) (decide ((40 : Int) < (n.length : Int))) with hd | hd | hd | hd
 case inr.inr.inr =>
  have hd':=hd
  simp only [decide_eq_false_iff_not] at hd'
  have h1:=fun s=>pubRead_calls (Γ:=Γ) hG b (by omega) s
  have h2:=fun s=>refPubRead_calls (Γ:=Γ) b (by omega) s
  have h3:=fun s=>pubFirst_calls (Γ:=Γ) hG0 hG1 g n b.length (by omega) (by omega) s
  have h4:=fun s=>refPubFirst_calls (Γ:=Γ) g n b.length (by omega) (by omega) s
  have hs1:=fun s=>refPubSame_calls (Γ:=Γ) (stRead b).1 (stRead b).1 (stRead_W b) s
  have hs2:=fun s=>refPubSame_calls (Γ:=Γ) (firstT g n b.length).1 (firstT g n b.length).1 (firstT_W g n b.length) s
  rw [decide_eq_true rfl] at hs1 hs2
  have hcv : iconv .u64 ((b.length : Nat) : Int) = ((b.length : Nat) : Int):=u64_conv (by omega)
  generalize (stRead b).2 = e1 at *
  generalize (firstT g n b.length).2 = e2 at *
  generalize (stRead b).1 = S1 at *
  generalize (firstT g n b.length).1 = S2 at *
  unfold StV.cells at *
  unfold treeV bytesV at *
  generalize rowC NodeV.cells S1.tree = X1 at *
  generalize rowC NodeV.cells S2.tree = X2 at *
  refine jA ?_
  refine wK fun K hK=>?_
  refine jQ fun K hK=>?_
  refine acallk (haw _) ?_
  rintro r s1 ⟨rfl,rfl⟩
  refine jV @hd hK ?_;clear hK K
  refine jF ?_
  refine awp_skip ?_
  refine hK _ _ ?_;clear hK K
  refine awp_reg_frz 7 (by decide) ?_
  intro K hK
  simp only [↓DM,pval,DX,Nz,↓DN,Qa,Qb,Qc,Qd,Qe,Qf,Qg,Qh,reduceCtorEq,↓reduceIte,Na,Nb,Nc,Nk,Nf,Ng,Nh,Za,Zb,Zc,TT]
  refine acallk (h1 _) ?_
  rintro r s2 ⟨rfl,rfl⟩
  simp only [↓DM,pval,DX,Nz,↓DN,Qa,Qb,Qc,Qd,Qe,Qf,Qg,Qh,reduceCtorEq,↓reduceIte,Na,Nb,Nc,Nk,Nf,Ng,Nh,Za,Zb,Zc,TT]
  intro o1 q1
  refine hK _ _ o1 _ (by simp only [upd,Nc,↓reduceIte]) q1 ?_
  clear hK K q1
  refine awp_reg_frz 9 (by decide) ?_
  intro K hK
  simp only [↓DM,pval,DX,Nz,↓DN,Qa,Qb,Qc,Qd,Qe,Qf,Qg,Qh,reduceCtorEq,↓reduceIte,Na,Nb,Nc,Nk,Nf,Ng,Nh,Za,Zb,Zc,TT]
  refine acallk (h2 _) ?_
  rintro r s3 ⟨rfl,rfl⟩
  simp only [↓DM,pval,DX,Nz,↓DN,Qa,Qb,Qc,Qd,Qe,Qf,Qg,Qh,reduceCtorEq,↓reduceIte,Na,Nb,Nc,Nk,Nf,Ng,Nh,Za,Zb,Zc,TT]
  intro o2 q2
  refine hK _ _ o2 _ (by simp only [upd,Nc,↓reduceIte]) q2 ?_
  clear hK K q2
  refine jB @hcv ?_
  refine awp_reg_frz 12 (by decide) ?_
  intro K hK
  simp only [↓DM,pval,DX,Nz,↓DN,Qa,Qb,Qc,Qd,Qe,Qf,Qg,Qh,reduceCtorEq,↓reduceIte,Na,Nb,Nc,Nk,Nf,Ng,Nh,Za,Zb,Zc,TT]
  refine acallk (h3 _) ?_
  rintro r s4 ⟨rfl,rfl⟩
  simp only [↓DM,pval,DX,Nz,↓DN,Qa,Qb,Qc,Qd,Qe,Qf,Qg,Qh,reduceCtorEq,↓reduceIte,Na,Nb,Nc,Nk,Nf,Ng,Nh,Za,Zb,Zc,TT]
  intro o3 q3
  refine hK _ _ o3 _ (by simp only [upd,Nc,↓reduceIte]) q3 ?_
  clear hK K q3
  refine awp_reg_frz 14 (by decide) ?_
  intro K hK
  simp only [↓DM,pval,DX,Nz,↓DN,Qa,Qb,Qc,Qd,Qe,Qf,Qg,Qh,reduceCtorEq,↓reduceIte,Na,Nb,Nc,Nk,Nf,Ng,Nh,Za,Zb,Zc,TT]
  refine acallk (h4 _) ?_
  rintro r s5 ⟨rfl,rfl⟩
  simp only [↓DM,pval,DX,Nz,↓DN,Qa,Qb,Qc,Qd,Qe,Qf,Qg,Qh,reduceCtorEq,↓reduceIte,Na,Nb,Nc,Nk,Nf,Ng,Nh,Za,Zb,Zc,TT]
  intro o4 q4
  refine hK _ _ o4 _ (by simp only [upd,Nc,↓reduceIte]) q4 ?_
  clear hK K q4
  refine jS @bneI fun K hK=>?_
  refine acallk (hs1 _) ?_
  rintro r s6 ⟨rfl,rfl⟩
  simp only [↓DM,pval,DX,Nz,↓DN,Qa,Qb,Qc,Qd,Qe,Qf,Qg,Qh,reduceCtorEq,↓reduceIte,Na,Nb,Nc,Nk,Nf,Ng,Nh,Za,Zb,Zc,TT,bneI]
  refine acallk (hs2 _) ?_
  rintro r s7 ⟨rfl,rfl⟩
  refine jR hK ?_;clear hK K
  refine jI ?_
  exact ⟨_,_,AV.weak.refl _,AS.le.refl _,rfl⟩
 all_goals
  clear hG hG0 hG1
  unfold bytesV at *
  refine jA ?_
  refine wK fun K hK=>?_
  refine jQ fun K hK=>?_
  refine acallk (haw _) ?_
  rintro r s1 ⟨rfl,rfl⟩
  refine jV @hd hK ?_;clear hK K
  refine jE ?_
  refine jK (haw _) ?_;rintro s2 rfl
  refine jI ?_
  exact ⟨_,_,AV.weak.refl _,AS.le.refl _,rfl⟩
end Go.Proofs.YtfjlmkifiihgkaaGreatDoor
namespace Go.Proofs.YtfjlmkifiihgkaaGreatDoor
open Go Go.AM Go.Proofs
def dB32 : List Nat:=[0,1,28,2,29,14,24,3,30,22,20,15,25,17,4,8,31,27,13,23,21,19,16,7,26,12,18,6,11,5,10,9]
def Γd (g : Nat) : List AV:=if g = 0 then [wV Sha.H0.a,wV Sha.H0.b,wV Sha.H0.c,wV Sha.H0.d,wV Sha.H0.e,wV Sha.H0.f,wV Sha.H0.g,wV Sha.H0.h] else if g = 1 then Sha.K.map wV else if g = 2 then dB32.map u8C else if g = 3 then dB64.map u8C else []
abbrev laidD : List (String × DataW Unit):=[("math/bits.deBruijn32tab", Rows.laid_math_bits_deBruijn32tab),("math/bits.deBruijn64tab", Rows.laid_math_bits_deBruijn64tab),("engrosser/sha.rounds", Rows.laid_engrosser_sha_rounds),("engrosser/sha.start", Rows.laid_engrosser_sha_start)]
theorem ints_of_trod {H : Type} {enc : TypeId × Value→H} {P : Program} {W : World} {base : Nat} {sp : Nat→Bool} {held : Bool} {fuel : Nat} {t e : TypeId} {n : Nat} {cs : List Value} {p : List MemPlace} {l : List Nat} {kd : IntKind}
    (hT : P.underlying t = some (.array n e)) (he : P.underlying e = some (.int kd)) (hc : P.cellsOf e = 1)
    (h : DataW.trod enc P W base sp held fuel t cs = some (.agg (l.map fun (x : Nat)=>.lit (.int kd (x : Int))),p)) : ∀ (i x : Nat),l[i]? = some x→cs[i]? = some (.int kd (x : Int)):=by
  obtain ⟨xs,m,rfl,hx,hlen,hn,hel⟩:=DataW.trod_array hT h
  simp only [Prod.mk.injEq,DataW.agg.injEq] at hx
  intro i x hi
  have h1 : (l.map fun (x : Nat)=>DataW.lit (H:=H) (.int kd (x : Int)))[i]? = some (.lit (.int kd (x : Int))):=by rw [List.getElem?_map,hi]; rfl
  rw [hx.1,List.getElem?_map] at h1
  cases hy : xs[i]? with
  | none=>rw [hy] at h1; cases h1
  | some y =>
    rw [hy] at h1
    simp only [Option.map_some,Option.some.injEq] at h1
    have hlt:=(List.getElem?_eq_some_iff.1 hy).1
    have h2:=hel i (by omega)
    rw [hy,hc,Nat.mul_one] at h2
    obtain ⟨k,e1,e2,_⟩:=DataW.trod_int he h2
    rw [e2] at h1
    simp only [DataW.lit.injEq,Lit.int.injEq,true_and] at h1
    have h3 : (List.take 1 (List.drop i cs))[0]? = some (.int kd k):=by rw [e1]; rfl
    rw [List.getElem?_take,if_pos (by decide),List.getElem?_drop,Nat.add_zero,h1] at h3
    exact h3
theorem gRounds : Tryz.prog.globalNamed "engrosser/sha.rounds" = some 1:=by kernel_rfl
theorem gStart : Tryz.prog.globalNamed "engrosser/sha.start" = some 0:=by kernel_rfl
theorem gB32 : Tryz.prog.globalNamed "math/bits.deBruijn32tab" = some 2:=by kernel_rfl
theorem gB64 : Tryz.prog.globalNamed "math/bits.deBruijn64tab" = some 3:=by kernel_rfl
theorem tRounds : (Tryz.prog.globals[1]?).map (·.type) = some 265:=by kernel_rfl
theorem tStart : (Tryz.prog.globals[0]?).map (·.type) = some 214:=by kernel_rfl
theorem tB32 : (Tryz.prog.globals[2]?).map (·.type) = some 283:=by kernel_rfl
theorem tB64 : (Tryz.prog.globals[3]?).map (·.type) = some 284:=by kernel_rfl
theorem words_at {kd : IntKind} {W : World} {g : Nat} {cs : Array Value} {l : List Nat} (hc : ∀ i,W.cell? ⟨g,i,none⟩ = cs[i]?) (h : ∀ (i x : Nat),l[i]? = some x→cs.toList[i]? = some (.int kd (x : Int))) :
    ∃ vs,VRels (G0 W) (l.map fun (x : Nat)=>.v (.int kd (x : Int))) vs∧RoAt (G0 W) g 0 vs:=by
  refine ⟨l.map fun (x : Nat)=>.int kd (x : Int),?_,?_⟩
  · have:=VRels.vals (G:=G0 W) (l.map fun (x : Nat)=>Value.int kd (x : Int))
    rwa [List.map_map] at this
  · intro j u hu
    rw [List.getElem?_map] at hu
    cases hj : l[j]? with
    | none=>rw [hj] at hu; cases hu
    | some x =>
      rw [hj] at hu
      simp only [Option.map_some,Option.some.injEq] at hu
      have:=h j x hj
      show W.cell? ⟨g,0 + j,none⟩ = some u
      rw [Nat.zero_add,hc j,← hu]
      simpa using this
theorem of_laid {W : World} (h : laidMetH Tryz.prog laidD W) : ∀ g,∃ vs,VRels (G0 W) (Γd g) vs∧RoAt (G0 W) g 0 vs:=by
  rw [MakeChecks.laidMetH_plain _ _ _ (by kernel_rfl)] at h
  obtain ⟨ps,⟨g0,t0,cs0,f0,p0,q0,hg0,ht0,hv0,hd0,⟨g1,t1,cs1,f1,p1,q1,hg1,ht1,hv1,hd1,⟨g2,t2,cs2,f2,p2,q2,hg2,ht2,hv2,hd2,⟨g3,t3,cs3,f3,p3,q3,hg3,ht3,hv3,hd3,_,_⟩,_⟩,_⟩,_⟩,_,_⟩:=h
  obtain rfl:=Option.some.inj (gB32.symm.trans hg0)
  obtain rfl:=Option.some.inj (gB64.symm.trans hg1)
  obtain rfl:=Option.some.inj (gRounds.symm.trans hg2)
  obtain rfl:=Option.some.inj (gStart.symm.trans hg3)
  obtain rfl:=Option.some.inj (tB32.symm.trans ht0)
  obtain rfl:=Option.some.inj (tB64.symm.trans ht1)
  obtain rfl:=Option.some.inj (tRounds.symm.trans ht2)
  obtain rfl:=Option.some.inj (tStart.symm.trans ht3)
  have h2:=words_at (World.var?_cell hg0 hv0) (ints_of_trod (l:=dB32) Tryz.underlying283 Tryz.underlying5 T.c5 hd0)
  have h3:=words_at (World.var?_cell hg1 hv1) (ints_of_trod (l:=dB64) Tryz.underlying284 Tryz.underlying5 T.c5 hd1)
  have h1:=words_at (World.var?_cell hg2 hv2) (ints_of_trod (l:=Sha.K) Tryz.underlying265 Tryz.underlying213 T.c213 hd2)
  have h0:=words_at (World.var?_cell hg3 hv3) (ints_of_trod (l:=Sha.H0.list) Tryz.underlying214 Tryz.underlying213 T.c213 hd3)
  intro g
  by_cases e0 : g = 0
  · subst e0; exact h0
  · by_cases e1 : g = 1
    · subst e1; exact h1
    · by_cases e2 : g = 2
      · subst e2; exact h2
      · by_cases e3 : g = 3
        · subst e3; exact h3
        · refine ⟨[],?_,fun j u h=>by simp at h⟩
          simp [Γd,e0,e1,e2,e3,VRels]
theorem door_met (os : Os) (args : Array Value) : laidMetH Tryz.prog laidD ((World.doorLaid Tryz.prog 400 os).forCall (fun _ _=>0) ⟨#[],args,[]⟩).memory:=by
  rw [MakeChecks.laidMetH_plain _ _ _ (by kernel_rfl)]
  exact laidMet_of_run' 8 (by kernel_rfl) (by kernel_rfl)
end Go.Proofs.YtfjlmkifiihgkaaGreatDoor
namespace Go.Proofs.YtfjlmkifiihgkaaGreatDoor
set_option maxRecDepth 100000
def signs : List Char:=[Char.ofNat 104,Char.ofNat 97,Char.ofNat 114,Char.ofNat 110,Char.ofNat 101,Char.ofNat 115,Char.ofNat 115,Char.ofNat 32,Char.ofNat 101,Char.ofNat 52,Char.ofNat 98,Char.ofNat 56,Char.ofNat 52,Char.ofNat 98,Char.ofNat 50,Char.ofNat 56,Char.ofNat 55,Char.ofNat 57,Char.ofNat 102,Char.ofNat 55,Char.ofNat 99,Char.ofNat 97,Char.ofNat 97,Char.ofNat 100,Char.ofNat 51,Char.ofNat 52,Char.ofNat 101,Char.ofNat 49,Char.ofNat 53,Char.ofNat 55,Char.ofNat 53,Char.ofNat 51,Char.ofNat 102,Char.ofNat 100,Char.ofNat 48,Char.ofNat 48,Char.ofNat 54,Char.ofNat 98,Char.ofNat 98,Char.ofNat 51,Char.ofNat 49,Char.ofNat 49,Char.ofNat 52,Char.ofNat 52,Char.ofNat 98,Char.ofNat 52,Char.ofNat 52,Char.ofNat 53,Char.ofNat 99,Char.ofNat 98,Char.ofNat 101,Char.ofNat 52,Char.ofNat 55,Char.ofNat 101,Char.ofNat 98,Char.ofNat 100,Char.ofNat 100,Char.ofNat 99,Char.ofNat 100,Char.ofNat 50,Char.ofNat 56,Char.ofNat 102,Char.ofNat 48,Char.ofNat 53,Char.ofNat 53,Char.ofNat 57,Char.ofNat 55,Char.ofNat 101,Char.ofNat 100,Char.ofNat 49,Char.ofNat 48,Char.ofNat 98,Char.ofNat 32,Char.ofNat 99,Char.ofNat 117,Char.ofNat 116,Char.ofNat 32,Char.ofNat 97,Char.ofNat 116,Char.ofNat 32,Char.ofNat 101,Char.ofNat 110,Char.ofNat 103,Char.ofNat 114,Char.ofNat 111,Char.ofNat 115,Char.ofNat 115,Char.ofNat 101,Char.ofNat 114,Char.ofNat 47,Char.ofNat 101,Char.ofNat 110,Char.ofNat 103,Char.ofNat 114,Char.ofNat 111,Char.ofNat 115,Char.ofNat 115,Char.ofNat 101,Char.ofNat 114,Char.ofNat 108,Char.ofNat 97,Char.ofNat 119,Char.ofNat 50,Char.ofNat 48,Char.ofNat 46,Char.ofNat 82,Char.ofNat 97,Char.ofNat 116,Char.ofNat 99,Char.ofNat 104,Char.ofNat 101,Char.ofNat 116,Char.ofNat 65,Char.ofNat 99,Char.ofNat 116,Char.ofNat 115,Char.ofNat 32,Char.ofNat 101,Char.ofNat 110,Char.ofNat 103,Char.ofNat 114,Char.ofNat 111,Char.ofNat 115,Char.ofNat 115,Char.ofNat 101,Char.ofNat 114,Char.ofNat 47,Char.ofNat 101,Char.ofNat 110,Char.ofNat 103,Char.ofNat 114,Char.ofNat 111,Char.ofNat 115,Char.ofNat 115,Char.ofNat 101,Char.ofNat 114,Char.ofNat 108,Char.ofNat 97,Char.ofNat 119,Char.ofNat 50,Char.ofNat 48,Char.ofNat 46,Char.ofNat 82,Char.ofNat 97,Char.ofNat 116,Char.ofNat 99,Char.ofNat 104,Char.ofNat 101,Char.ofNat 116,Char.ofNat 82,Char.ofNat 111,Char.ofNat 119,Char.ofNat 115,Char.ofNat 32,Char.ofNat 101,Char.ofNat 110,Char.ofNat 103,Char.ofNat 114,Char.ofNat 111,Char.ofNat 115,Char.ofNat 115,Char.ofNat 101,Char.ofNat 114,Char.ofNat 47,Char.ofNat 101,Char.ofNat 110,Char.ofNat 103,Char.ofNat 114,Char.ofNat 111,Char.ofNat 115,Char.ofNat 115,Char.ofNat 101,Char.ofNat 114,Char.ofNat 108,Char.ofNat 97,Char.ofNat 119,Char.ofNat 50,Char.ofNat 52,Char.ofNat 46,Char.ofNat 80,Char.ofNat 117,Char.ofNat 98,Char.ofNat 108,Char.ofNat 105,Char.ofNat 99,Char.ofNat 78,Char.ofNat 101,Char.ofNat 120,Char.ofNat 116,Char.ofNat 32,Char.ofNat 101,Char.ofNat 110,Char.ofNat 103,Char.ofNat 114,Char.ofNat 111,Char.ofNat 115,Char.ofNat 115,Char.ofNat 101,Char.ofNat 114,Char.ofNat 47,Char.ofNat 101,Char.ofNat 110,Char.ofNat 103,Char.ofNat 114,Char.ofNat 111,Char.ofNat 115,Char.ofNat 115,Char.ofNat 101,Char.ofNat 114,Char.ofNat 108,Char.ofNat 97,Char.ofNat 119,Char.ofNat 50,Char.ofNat 52,Char.ofNat 46,Char.ofNat 80,Char.ofNat 117,Char.ofNat 98,Char.ofNat 108,Char.ofNat 105,Char.ofNat 99,Char.ofNat 70,Char.ofNat 111,Char.ofNat 108,Char.ofNat 100,Char.ofNat 115,Char.ofNat 32,Char.ofNat 101,Char.ofNat 110,Char.ofNat 103,Char.ofNat 114,Char.ofNat 111,Char.ofNat 115,Char.ofNat 115,Char.ofNat 101,Char.ofNat 114,Char.ofNat 47,Char.ofNat 101,Char.ofNat 110,Char.ofNat 103,Char.ofNat 114,Char.ofNat 111,Char.ofNat 115,Char.ofNat 115,Char.ofNat 101,Char.ofNat 114,Char.ofNat 108,Char.ofNat 97,Char.ofNat 119,Char.ofNat 50,Char.ofNat 52,Char.ofNat 46,Char.ofNat 80,Char.ofNat 117,Char.ofNat 98,Char.ofNat 108,Char.ofNat 105,Char.ofNat 99,Char.ofNat 82,Char.ofNat 101,Char.ofNat 97,Char.ofNat 100,Char.ofNat 115,Char.ofNat 32,Char.ofNat 101,Char.ofNat 110,Char.ofNat 103,Char.ofNat 114,Char.ofNat 111,Char.ofNat 115,Char.ofNat 115,Char.ofNat 101,Char.ofNat 114,Char.ofNat 47,Char.ofNat 101,Char.ofNat 110,Char.ofNat 103,Char.ofNat 114,Char.ofNat 111,Char.ofNat 115,Char.ofNat 115,Char.ofNat 101,Char.ofNat 114,Char.ofNat 108,Char.ofNat 97,Char.ofNat 119,Char.ofNat 50,Char.ofNat 52,Char.ofNat 46,Char.ofNat 80,Char.ofNat 117,Char.ofNat 98,Char.ofNat 108,Char.ofNat 105,Char.ofNat 99,Char.ofNat 83,Char.ofNat 116,Char.ofNat 97,Char.ofNat 116,Char.ofNat 101,Char.ofNat 115,Char.ofNat 32,Char.ofNat 101,Char.ofNat 110,Char.ofNat 103,Char.ofNat 114,Char.ofNat 111,Char.ofNat 115,Char.ofNat 115,Char.ofNat 101,Char.ofNat 114,Char.ofNat 47,Char.ofNat 101,Char.ofNat 110,Char.ofNat 103,Char.ofNat 114,Char.ofNat 111,Char.ofNat 115,Char.ofNat 115,Char.ofNat 101,Char.ofNat 114,Char.ofNat 108,Char.ofNat 97,Char.ofNat 119,Char.ofNat 51,Char.ofNat 48,Char.ofNat 46,Char.ofNat 65,Char.ofNat 117,Char.ofNat 100,Char.ofNat 105,Char.ofNat 116,Char.ofNat 82,Char.ofNat 101,Char.ofNat 112,Char.ofNat 108,Char.ofNat 97,Char.ofNat 121,Char.ofNat 115]
def headWords : List (List Char):=[[Char.ofNat 104,Char.ofNat 97,Char.ofNat 114,Char.ofNat 110,Char.ofNat 101,Char.ofNat 115,Char.ofNat 115],
  [Char.ofNat 101,Char.ofNat 52,Char.ofNat 98,Char.ofNat 56,Char.ofNat 52,Char.ofNat 98,Char.ofNat 50,Char.ofNat 56,Char.ofNat 55,Char.ofNat 57,Char.ofNat 102,Char.ofNat 55,Char.ofNat 99,Char.ofNat 97,Char.ofNat 97,Char.ofNat 100,Char.ofNat 51,Char.ofNat 52,Char.ofNat 101,Char.ofNat 49,Char.ofNat 53,Char.ofNat 55,Char.ofNat 53,Char.ofNat 51,Char.ofNat 102,Char.ofNat 100,Char.ofNat 48,Char.ofNat 48,Char.ofNat 54,Char.ofNat 98,Char.ofNat 98,Char.ofNat 51,Char.ofNat 49,Char.ofNat 49,Char.ofNat 52,Char.ofNat 52,Char.ofNat 98,Char.ofNat 52,Char.ofNat 52,Char.ofNat 53,Char.ofNat 99,Char.ofNat 98,Char.ofNat 101,Char.ofNat 52,Char.ofNat 55,Char.ofNat 101,Char.ofNat 98,Char.ofNat 100,Char.ofNat 100,Char.ofNat 99,Char.ofNat 100,Char.ofNat 50,Char.ofNat 56,Char.ofNat 102,Char.ofNat 48,Char.ofNat 53,Char.ofNat 53,Char.ofNat 57,Char.ofNat 55,Char.ofNat 101,Char.ofNat 100,Char.ofNat 49,Char.ofNat 48,Char.ofNat 98],
  [Char.ofNat 99,Char.ofNat 117,Char.ofNat 116],
  [Char.ofNat 97,Char.ofNat 116],
  [Char.ofNat 101,Char.ofNat 110,Char.ofNat 103,Char.ofNat 114,Char.ofNat 111,Char.ofNat 115,Char.ofNat 115,Char.ofNat 101,Char.ofNat 114,Char.ofNat 47,Char.ofNat 101,Char.ofNat 110,Char.ofNat 103,Char.ofNat 114,Char.ofNat 111,Char.ofNat 115,Char.ofNat 115,Char.ofNat 101,Char.ofNat 114,Char.ofNat 108,Char.ofNat 97,Char.ofNat 119,Char.ofNat 50,Char.ofNat 48,Char.ofNat 46,Char.ofNat 82,Char.ofNat 97,Char.ofNat 116,Char.ofNat 99,Char.ofNat 104,Char.ofNat 101,Char.ofNat 116,Char.ofNat 65,Char.ofNat 99,Char.ofNat 116,Char.ofNat 115],
  [Char.ofNat 101,Char.ofNat 110,Char.ofNat 103,Char.ofNat 114,Char.ofNat 111,Char.ofNat 115,Char.ofNat 115,Char.ofNat 101,Char.ofNat 114,Char.ofNat 47,Char.ofNat 101,Char.ofNat 110,Char.ofNat 103,Char.ofNat 114,Char.ofNat 111,Char.ofNat 115,Char.ofNat 115,Char.ofNat 101,Char.ofNat 114,Char.ofNat 108,Char.ofNat 97,Char.ofNat 119,Char.ofNat 50,Char.ofNat 48,Char.ofNat 46,Char.ofNat 82,Char.ofNat 97,Char.ofNat 116,Char.ofNat 99,Char.ofNat 104,Char.ofNat 101,Char.ofNat 116,Char.ofNat 82,Char.ofNat 111,Char.ofNat 119,Char.ofNat 115],
  [Char.ofNat 101,Char.ofNat 110,Char.ofNat 103,Char.ofNat 114,Char.ofNat 111,Char.ofNat 115,Char.ofNat 115,Char.ofNat 101,Char.ofNat 114,Char.ofNat 47,Char.ofNat 101,Char.ofNat 110,Char.ofNat 103,Char.ofNat 114,Char.ofNat 111,Char.ofNat 115,Char.ofNat 115,Char.ofNat 101,Char.ofNat 114,Char.ofNat 108,Char.ofNat 97,Char.ofNat 119,Char.ofNat 50,Char.ofNat 52,Char.ofNat 46,Char.ofNat 80,Char.ofNat 117,Char.ofNat 98,Char.ofNat 108,Char.ofNat 105,Char.ofNat 99,Char.ofNat 78,Char.ofNat 101,Char.ofNat 120,Char.ofNat 116],
  [Char.ofNat 101,Char.ofNat 110,Char.ofNat 103,Char.ofNat 114,Char.ofNat 111,Char.ofNat 115,Char.ofNat 115,Char.ofNat 101,Char.ofNat 114,Char.ofNat 47,Char.ofNat 101,Char.ofNat 110,Char.ofNat 103,Char.ofNat 114,Char.ofNat 111,Char.ofNat 115,Char.ofNat 115,Char.ofNat 101,Char.ofNat 114,Char.ofNat 108,Char.ofNat 97,Char.ofNat 119,Char.ofNat 50,Char.ofNat 52,Char.ofNat 46,Char.ofNat 80,Char.ofNat 117,Char.ofNat 98,Char.ofNat 108,Char.ofNat 105,Char.ofNat 99,Char.ofNat 70,Char.ofNat 111,Char.ofNat 108,Char.ofNat 100,Char.ofNat 115],
  [Char.ofNat 101,Char.ofNat 110,Char.ofNat 103,Char.ofNat 114,Char.ofNat 111,Char.ofNat 115,Char.ofNat 115,Char.ofNat 101,Char.ofNat 114,Char.ofNat 47,Char.ofNat 101,Char.ofNat 110,Char.ofNat 103,Char.ofNat 114,Char.ofNat 111,Char.ofNat 115,Char.ofNat 115,Char.ofNat 101,Char.ofNat 114,Char.ofNat 108,Char.ofNat 97,Char.ofNat 119,Char.ofNat 50,Char.ofNat 52,Char.ofNat 46,Char.ofNat 80,Char.ofNat 117,Char.ofNat 98,Char.ofNat 108,Char.ofNat 105,Char.ofNat 99,Char.ofNat 82,Char.ofNat 101,Char.ofNat 97,Char.ofNat 100,Char.ofNat 115],
  [Char.ofNat 101,Char.ofNat 110,Char.ofNat 103,Char.ofNat 114,Char.ofNat 111,Char.ofNat 115,Char.ofNat 115,Char.ofNat 101,Char.ofNat 114,Char.ofNat 47,Char.ofNat 101,Char.ofNat 110,Char.ofNat 103,Char.ofNat 114,Char.ofNat 111,Char.ofNat 115,Char.ofNat 115,Char.ofNat 101,Char.ofNat 114,Char.ofNat 108,Char.ofNat 97,Char.ofNat 119,Char.ofNat 50,Char.ofNat 52,Char.ofNat 46,Char.ofNat 80,Char.ofNat 117,Char.ofNat 98,Char.ofNat 108,Char.ofNat 105,Char.ofNat 99,Char.ofNat 83,Char.ofNat 116,Char.ofNat 97,Char.ofNat 116,Char.ofNat 101,Char.ofNat 115],
  [Char.ofNat 101,Char.ofNat 110,Char.ofNat 103,Char.ofNat 114,Char.ofNat 111,Char.ofNat 115,Char.ofNat 115,Char.ofNat 101,Char.ofNat 114,Char.ofNat 47,Char.ofNat 101,Char.ofNat 110,Char.ofNat 103,Char.ofNat 114,Char.ofNat 111,Char.ofNat 115,Char.ofNat 115,Char.ofNat 101,Char.ofNat 114,Char.ofNat 108,Char.ofNat 97,Char.ofNat 119,Char.ofNat 51,Char.ofNat 48,Char.ofNat 46,Char.ofNat 65,Char.ofNat 117,Char.ofNat 100,Char.ofNat 105,Char.ofNat 116,Char.ofNat 82,Char.ofNat 101,Char.ofNat 112,Char.ofNat 108,Char.ofNat 97,Char.ofNat 121,Char.ofNat 115]]
theorem initS : Tryz.prog.initOrder = String.ofList signs:=by kernel_rfl
theorem words : wordsSigns Tryz.prog.initOrder.toList = headWords:=by
  rw [initS,String.toList_ofList]
  kernel_rfl
theorem both {a b : Bool} (h : a = true) (k : b = true) : (a && b) = true:=by rw [h,k]; rfl
theorem same_of {a b : Bool} (h : b = a) : (a == b) = true:=by rw [h]; cases a <;> rfl
theorem make_of {a b : Option Make} (h : a = b) : (a == b) = true:=by rw [h]; exact beq_self_eq_true _
theorem strip_cut (r : List (List Char)) : stripLifts liftWords ("cut".toList :: r) = ([], "cut".toList :: r):=by kernel_rfl
theorem lifts_cut {P : Program} {r} (h : behindMainWord (wordsSigns P.initOrder.toList) = "cut".toList :: r) : P.headLifts = []:=by
  unfold Program.headLifts
  rw [h,strip_cut]
  kernel_rfl
theorem make_cut {P : Program} {r} (h : behindMainWord (wordsSigns P.initOrder.toList) = "cut".toList :: r) : P.make = some .cut:=by
  unfold Program.make
  rw [h,lifts_cut h]
  kernel_rfl
theorem final_cut {P : Program} {r} (h : behindMainWord (wordsSigns P.initOrder.toList) = "cut".toList :: r) : P.liftsFinal = false:=by
  unfold Program.liftsFinal
  rw [h,lifts_cut h]
  kernel_rfl
theorem main_har {P : Program} {s r} (h : wordsSigns P.initOrder.toList = "harness".toList :: s :: r) (hs : isSumSigns s = true) : P.mainIs = some (true,s):=by
  unfold Program.mainIs
  rw [h]
  dsimp only
  rw [hs]
  kernel_rfl
theorem may_cut {P : Program} {r} (h : behindMainWord (wordsSigns P.initOrder.toList) = "cut".toList :: r) (hl : P.laysLater = false) (hr : P.bearsReflect = false) (hd : P.doorFits [] = true) : P.mayEnter = true:=by
  unfold Program.mayEnter
  rw [h,hl,hr]
  dsimp only
  rw [strip_cut]
  dsimp only
  rw [hd]
  kernel_rfl
theorem behind : behindMainWord (wordsSigns Tryz.prog.initOrder.toList) = "cut".toList :: headWords.drop 3:=(congrArg behindMainWord words).trans (by kernel_rfl)
theorem headMake : Tryz.prog.make = some .cut:=make_cut behind
theorem headMain : Tryz.prog.mainIs = some (true, "e4b84b2879f7caad34e15753fd006bb31144b445cbe47ebddcd28f05597ed10b".toList):=main_har (r:=headWords.drop 2) (words.trans (by kernel_rfl)) (by kernel_rfl)
theorem headMay : Tryz.prog.mayEnter = true:=may_cut behind (by kernel_rfl) (by kernel_rfl) (by kernel_rfl)
theorem headFin : Tryz.prog.liftsFinal = false:=final_cut behind
end Go.Proofs.YtfjlmkifiihgkaaGreatDoor
