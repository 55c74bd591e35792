/- Contracts of the program's functions, each walked once; the conditions stand in each theorem. -/
import Derived.Test.YtfjlmkifiihgkaaGreatDoorAMp6
import Derived.Test.YtfjlmkifiihgkaaGreatDoorW1
import Derived.Test.YtfjlmkifiihgkaaGreatDoorW7
import Derived.Test.YtfjlmkifiihgkaaGreatDoorW3
import Derived.Test.YtfjlmkifiihgkaaGreatDoorW2
import Derived.Test.YtfjlmkifiihgkaaGreatDoorAMp4
import Derived.Test.YtfjlmkifiihgkaaGreatDoorAMp3
import Derived.Test.YtfjlmkifiihgkaaGreatDoorAMp5
import Derived.Test.YtfjlmkifiihgkaaGreatDoorW4
import Derived.Test.YtfjlmkifiihgkaaGreatDoorW5
import Derived.Test.YtfjlmkifiihgkaaGreatDoorW6
set_option linter.unusedSimpArgs false
set_option linter.unusedVariables false
open Nat renaming reduceLT → Na, reduceLeDiff → Nb, reduceEqDiff → Nc, reduceAdd → Nk, reduceMul → Nf, reducePow → Ng, reduceSub → Nh, reduceBEq → Nz
open Int renaming reduceLT → Za, reduceLE → Zb, reduceToNat → Zc
open And renaming intro → Ai
open Go.AM renaming ashift → Qa, aconv → Qb, aindexAddr → Qc, aindex → Qd, aslice → Qe, abuiltin → Qf, awp_reg_seq → wS, awp_reg_end → wE, awp_seq_k → wK, awp_cond_k → wC
open Go.AM.AV renaming cells → Qg, one → Qh
set_option maxRecDepth 100000
set_option maxHeartbeats 8000000
set_option autoImplicit false
namespace Go.Proofs.YtfjlmkifiihgkaaGreatDoor
open Go Go.AM Go.Proofs
variable {Γ : Nat→List AV}
theorem foldedNil_calls (t : List NodeV) (sd : Int) (s : AS) : ACalls Tryz.prog Γ 89 [treeV t,.v (.int .i64 sd),.sl 5 0 [] .any] s (fun r s'=>r = .tup [treeV t,intsV [] .any,.v (.bool true)]∧s' = s):=by
 refine acalls_body Tryz.func89 rfl Tryz.ntmps89 Tryz.results89 (by simp) ?_
 have hat:=fun (i : Nat) (h : i < 3)=>eat_int (l:=[2,3,1]) (i:=i) h
 have hcs : [AV.v (.int .i64 2),.v (.int .i64 3),.v (.int .i64 1)] = [2,3,1].map intC:=rfl
 generalize hks : [2,3,1].map intC = KS at *
 unfold treeV intsV
 generalize rowC NodeV.cells t = X
 refine jA ?_
 refine jA ?_
 refine jA ?_
 refine wK fun K hK=>?_
 refine jA ?_
 refine awp_block ?_
 refine awp_loop (fun E s2=>∃ i : Nat,i≤3∧E 22 = .v (.int .i64 i)∧E 21 = .v (.int .i64 3)∧E 20 = .sl 1 3 KS .new∧E 0 = .sl 5 t.length X .any∧E 9 = .v (.slice none 0 0)∧E 2 = .sl 5 0 [] .any∧s2 = s)
  (fun E _=>match E 22 with | .v (.int _ i)=>3 - i.toNat | _=>0) ?_ ?_
 ·refine ⟨0,by decide,by simp only [upd,Nc,↓reduceIte]; rfl,by simp only [upd,Nc,↓reduceIte]; rfl,?_,by simp only [upd,initE,List.getD_cons_zero,List.getD_cons_succ,Nc,↓reduceIte],by simp only [upd,Nc,↓reduceIte],by simp only [upd,initE,List.getD_cons_zero,List.getD_cons_succ,Nc,↓reduceIte],rfl⟩
  simp only [upd,Nc,↓reduceIte]
  rw [← hcs]
  rfl
 ·rintro E1 s4 ⟨i,hi,g22,g21,g20,g0,g9,g2,rfl⟩ -
  by_cases hi' : i < 3
  ·refine jB (Ai @g22 (Ai @g21 (decide_eq_true (show ((i : Nat) : Int) < 3 by omega)))) ?_
   refine wK fun K2 hK2=>?_
   refine jE ?_
   refine awp_skip ?_
   refine hK2 _ _ ?_;clear hK2 K2
   refine wK fun K3 hK3=>?_
   refine awp_block ?_
   have hge : (0 : Int)≤(i : Int):=by omega
   have hlt3 : decide ((i : Int) < 3) = true:=decide_eq_true (by omega)
   have hat':=hat i hi'
   refine jB (Ai @g20 (Ai @g22 (Ai @hge (Ai @hi' (Ai @hat' @eye_lt_nat))))) ?_
   refine jB @g2 ?_
   refine awp_block ?_
   refine awp_loop (fun E s2=>E 28 = .v (.int .i64 0)∧E 27 = .v (.int .i64 (0 : Nat))∧E 22 = .v (.int .i64 i)∧E 21 = .v (.int .i64 3)∧E 20 = .sl 1 3 KS .new∧E 0 = .sl 5 t.length X .any∧E 9 = .v (.slice none 0 0)∧E 2 = .sl 5 0 [] .any∧s2 = s4)
    (fun E _=>0) ?_ ?_
   ·exact ⟨by simp only [upd,Nc,↓reduceIte],by simp only [upd,Nc,↓reduceIte],by simp only [upd,g22,Nc,↓reduceIte],by simp only [upd,g21,Nc,↓reduceIte],by simp only [upd,g20,Nc,↓reduceIte],by simp only [upd,g0,Nc,↓reduceIte],by simp only [upd,g9,Nc,↓reduceIte],by simp only [upd,g2,Nc,↓reduceIte],rfl⟩
   ·rintro E2 s5 ⟨g28,g27,k22,k21,k20,k0,k9,k2,rfl⟩ -
    refine jB (Ai @g28 (Ai @g27 (show decide ((0 : Int) < ((0 : Nat) : Int)) = false from rfl))) ?_
    refine wK fun K5 hK5=>?_
    refine jF ?_
    refine awp_exit ?_
    simp only [thenQ,blockQ,if_true,if_false,Nc]
    refine hK3 _ _ ?_;clear hK3 K3 hK5 K5
    refine jD (Ai @k22 (eye_succM i (by omega))) ?_
    refine ⟨⟨i + 1,by omega,by simp only [upd,Nc,↓reduceIte],by simp only [upd,k21,Nc,↓reduceIte],by simp only [upd,k20,Nc,↓reduceIte],by simp only [upd,k0,Nc,↓reduceIte],by simp only [upd,k9,Nc,↓reduceIte],by simp only [upd,k2,Nc,↓reduceIte],rfl⟩,?_⟩
    simp only [g22,upd,↓reduceIte]
    omega
  ·refine jB (Ai @g22 (Ai @g21 (decide_eq_false (show ¬ ((i : Nat) : Int) < 3 by omega)))) ?_
   refine wK fun K2 hK2=>?_
   refine jF ?_
   refine awp_exit ?_
   simp only [thenQ,blockQ,if_true]
   refine hK _ _ ?_;clear hK hK2 K2 K
   refine jB (Ai @g0 @g9) ?_
   refine jI ?_
   exact ⟨_,_,AV.weak_tup3 (AV.weak.refl _) AV.weak_nil (AV.weak.refl _),AS.le.refl _,rfl,rfl⟩
def pubFoldT (S : StV) (C : CommitV) (F : List NodeV × List Int × Bool) : List NodeV × List Int × Int :=
 if ¬ (S.right∧C.right) then ([],[],12) else
 if C.group≠S.group then ([],[],41) else
 if C.epoch≠S.epoch then ([],[],42) else
 if S.epoch = 1048576 then ([],[],47) else
 if ¬ memI S.tree C.sender then ([],[],43) else
 if F.2.2 = true then (F.1,F.2.1,0) else ([],[],44)
theorem tupN_weak (e : Int) : (AV.tup [.v (.slice none 0 0),.v (.slice none 0 0),.v (.int .i64 e)]).weak (.tup [treeN [],intsV [] .any,.v (.int .i64 e)]) :=
 AV.weak_tup3 (by rw [show treeN [] = nilS from if_pos rfl]; exact AV.weak.refl _) AV.weak_nil (AV.weak.refl _)
theorem pubFold_calls (hG : Γ 3 = dB64.map u8C) (S : StV) (ht : S.wf) (C : CommitV) (hf : CommitV.fits C) (F : List NodeV × List Int × Bool)
  (hF : S.right→C.right→memI S.tree C.sender→∀ s,ACalls Tryz.prog Γ 89 [treeV S.tree,.v (.int .i64 C.sender),.sl 5 C.props.length (rowC PropV.cells C.props) .any] s (fun r s'=>r = .tup [if F.2.2 = true then treeV F.1 else nilS,intsV F.2.1 .any,.v (.bool F.2.2)]∧s' = s))
  (hR : S.right→C.right→memI S.tree C.sender→F.2.2 = true→rightT F.1) (s : AS) :
  ACalls Tryz.prog Γ 28 [.agg S.cells,.agg C.cells] s (fun r s'=>r = .tup [treeN (pubFoldT S C F).1,intsV (pubFoldT S C F).2.1 .any,.v (.int .i64 (pubFoldT S C F).2.2)]∧s' = s):=by
 refine acalls_body Tryz.func28 rfl Tryz.ntmps28 Tryz.results28 (by simp) ?_
 have h1:=fun s=>pubRight_calls (Γ:=Γ) hG S ht s
 have h2:=fun s=>mright_calls (Γ:=Γ) C hf s
 have h3:=fun s=>bytesEqual_calls (Γ:=Γ) C.group S.group s
 have hx1 : ¬ S.right→pubFoldT S C F = ([],[],12):=fun h=>if_pos fun k=>h k.1
 have hx2 : ¬ C.right→pubFoldT S C F = ([],[],12):=fun h=>if_pos fun k=>h k.2
 have hx3 : S.right→C.right→C.group≠S.group→pubFoldT S C F = ([],[],41):=fun a b h=>by unfold pubFoldT; rw [if_neg (fun k=>k ⟨a,b⟩),if_pos h]
 have hx4 : S.right→C.right→C.group = S.group→C.epoch≠S.epoch→pubFoldT S C F = ([],[],42):=fun a b c h=>by unfold pubFoldT; rw [if_neg (fun k=>k ⟨a,b⟩),if_neg (fun k=>k c),if_pos h]
 have hx5 : S.right→C.right→C.group = S.group→C.epoch = S.epoch→S.epoch = 1048576→pubFoldT S C F = ([],[],47):=fun a b c d h=>by unfold pubFoldT; rw [if_neg (fun k=>k ⟨a,b⟩),if_neg (fun k=>k c),if_neg (fun k=>k d),if_pos h]
 have hx6 : S.right→C.right→C.group = S.group→C.epoch = S.epoch→S.epoch≠1048576→¬ memI S.tree C.sender→pubFoldT S C F = ([],[],43):=fun a b c d e h=>by unfold pubFoldT; rw [if_neg (fun k=>k ⟨a,b⟩),if_neg (fun k=>k c),if_neg (fun k=>k d),if_neg e,if_pos h]
 have hx7 : S.right→C.right→C.group = S.group→C.epoch = S.epoch→S.epoch≠1048576→memI S.tree C.sender→F.2.2 = true→pubFoldT S C F = (F.1,F.2.1,0):=fun a b c d e f h=>by unfold pubFoldT; rw [if_neg (fun k=>k ⟨a,b⟩),if_neg (fun k=>k c),if_neg (fun k=>k d),if_neg e,if_neg (fun k=>k f),if_pos h]
 have hx8 : S.right→C.right→C.group = S.group→C.epoch = S.epoch→S.epoch≠1048576→memI S.tree C.sender→F.2.2 = false→pubFoldT S C F = ([],[],44):=fun a b c d e f h=>by unfold pubFoldT; rw [if_neg (fun k=>k ⟨a,b⟩),if_neg (fun k=>k c),if_neg (fun k=>k d),if_neg e,if_neg (fun k=>k f),if_neg (by rw [h]; decide)]
 have hrc : C.right→0≤C.sender∧C.sender < 32:=fun h=>h.2.2.2.1
 have hrt : S.right→rightT S.tree:=fun h=>h.2.2.2.1
 obtain ⟨FT,FL,FB⟩:=F
 simp only at hF hR hx7 hx8
 generalize pubFoldT S C (FT,FL,FB) = PT at *
 obtain ⟨PT1,PT2,PT3⟩:=PT
 by_cases hS : S.right
 ·by_cases hC : C.right
  ·have hC1:=hrc hC
   have hS1:=hrt hS
   rw [decide_eq_true hS] at h1
   rw [decide_eq_true hC] at h2
   replace hx3:=hx3 hS hC
   replace hx4:=hx4 hS hC
   replace hx5:=hx5 hS hC
   replace hx6:=hx6 hS hC
   replace hx7:=hx7 hS hC
   replace hx8:=hx8 hS hC
   replace hF:=hF hS hC
   replace hR:=hR hS hC
   clear hx1 hx2 hrc hrt hf ht
   clear hS hC
   obtain ⟨cg,ce,cs,cp,ch,cpa,cc,cm⟩:=C
   obtain ⟨sg,se,st,sc,si⟩:=S
   unfold CommitV.cells StV.cells at *
   simp only at *
   have hatN:=fun (i : Nat) (h : i < st.length)=>node_at (t:=st) h
   unfold treeV at hF
   unfold treeV bytesV at *
   generalize rowC NodeV.cells st = X at *
   generalize rowC PropV.cells cp = CP at *
   generalize rowC StepV.cells cpa.steps = CS at *
   refine awp_reg_frz2 2 3 (by decide) (by decide) (by decide) ?_
   intro K hK
   simp only [↓DM,pval,DX,Nz,↓DN,Qa,Qb,Qc,Qd,Qe,Qf,Qg,Qh,reduceCtorEq,↓reduceIte,Na,Nb,Nc,Nk,Nf,Ng,Nh,Za,Zb,Zc,TT]
   intro o1 q1 o2 q2
   refine hK _ _ o1 o2 _ _ (by simp only [upd,Nc,↓reduceIte]) (by simp only [upd,Nc,↓reduceIte]) q1 (by rw [AS.set_objs_eq]; exact q2) ?_
   clear hK K q1 q2
   refine wK fun K hK=>?_
   refine awp_block ?_
   refine jQ fun K hK=>?_
   refine acallk (h1 _) ?_
   rintro r s1 ⟨rfl,rfl⟩
   simp only [↓DM,pval,DX,Nz,↓DN,Qa,Qb,Qc,Qd,Qe,Qf,Qg,Qh,reduceCtorEq,↓reduceIte,Na,Nb,Nc,Nk,Nf,Ng,Nh,Za,Zb,Zc,TT]
   refine acallk (h2 _) ?_
   rintro r s2 ⟨rfl,rfl⟩
   refine jR hK ?_;clear hK K
   refine jF ?_
   by_cases hg : cg = sg
   ·rw [decide_eq_true hg] at h3
    refine jK (h3 _) ?_;rintro s3 rfl
    refine jF ?_
    by_cases he : ce = se
    ·refine jB (int_bne_false he) ?_
     refine jF ?_
     by_cases h47 : se = 1048576
     ·cases hx5 hg he h47
      refine jB (int_eq_yes h47) ?_
      refine jE ?_
      refine jA ?_
      refine jI ?_
      exact ⟨_,_,tupN_weak _,AS.le.refl _,rfl,rfl⟩
     ·refine jB (int_eq_no h47) ?_
      refine jF ?_
      obtain ⟨n,rfl⟩:=Int.eq_ofNat_of_zero_le hC1.1
      have hmr : memI st (n : Int)↔2 * n < st.length∧(nd st (2 * n)).kind = 1:=by
       rw [← memR_right hS1]
       unfold memR
       rw [Int.toNat_natCast]
       exact ⟨fun h=>⟨by omega,h.2.2⟩,fun h=>⟨by omega,by omega,h.2⟩⟩
      have hge : (0 : Int)≤((2 * n : Nat) : Int):=by omega
      by_cases hm : memI st (n : Int)
      ·obtain ⟨m1,m2⟩:=hmr.1 hm
       have hat:=hatN _ m1
       generalize nd st (2 * n) = N at *
       obtain ⟨nk,nm,ny,np,nu⟩:=N
       unfold NodeV.cells bytesV at hat
       simp only at m2
       subst m2
       replace hF:=hF hm
       replace hR:=hR hm
       refine jB (Ai (imul2_nat n (by omega)) (Ai @eye_lt_nat (Ai @m1 (Ai @hge (Ai @hat (Ai (decide_eq_false (show ¬ (st.length : Int)≤((2 * n : Nat) : Int) by omega)) (show ((1 : Int) != 1) = false from rfl))))))) ?_
       refine jF ?_
       refine awp_skip ?_
       refine hK _ _ ?_;clear hK K
       refine jK (hF _) ?_;rintro s4 rfl
       refine wK fun K hK=>?_
       cases FB with
       | true =>
        cases hx7 hg he h47 hm rfl
        have hrF:=hR rfl
        have hclo:=fun s=>clone20V_calls (Γ:=Γ) FT (by have:=hrF.len; have:=this.2.le; omega) (fun q hq=>by have:=right_small (hrF.nodes hq); unfold NodeW; omega) s
        rw [treeN_ne (right_ne hrF)] at hK
        simp only [if_true]
        unfold treeV intsV at *
        refine jA ?_
        refine jF ?_
        refine awp_skip ?_
        refine hK _ _ ?_;clear hK K
        refine jK (hclo _) ?_;rintro s5 rfl
        exact jJ
       | false =>
        cases hx8 hg he h47 hm rfl
        refine jA ?_
        refine jE ?_
        refine jA ?_
        refine jI ?_
        exact ⟨_,_,tupN_weak _,AS.le.refl _,rfl,rfl⟩
      ·cases hx6 hg he h47 hm
       by_cases m1 : 2 * n < st.length
       ·have m2 : (nd st (2 * n)).kind≠1:=fun q=>hm (hmr.2 ⟨m1,q⟩)
        have hat:=hatN _ m1
        generalize nd st (2 * n) = N at *
        obtain ⟨nk,nm,ny,np,nu⟩:=N
        unfold NodeV.cells bytesV at hat
        simp only at m2
        refine jB (Ai (imul2_nat n (by omega)) (Ai @eye_lt_nat (Ai @m1 (Ai @hge (Ai @hat (Ai (decide_eq_false (show ¬ (st.length : Int)≤((2 * n : Nat) : Int) by omega)) (int_bne_true m2))))))) ?_
        refine jE ?_
        refine jA ?_
        refine jI ?_
        exact ⟨_,_,tupN_weak _,AS.le.refl _,rfl,rfl⟩
       ·refine jB (Ai (imul2_nat n (by omega)) (decide_eq_true (show (st.length : Int)≤((2 * n : Nat) : Int) by omega))) ?_
        refine jE ?_
        refine jA ?_
        refine jI ?_
        exact ⟨_,_,tupN_weak _,AS.le.refl _,rfl,rfl⟩
    ·cases hx4 hg he
     refine jB (int_bne_true he) ?_
     refine jE ?_
     refine jA ?_
     refine jI ?_
     exact ⟨_,_,tupN_weak _,AS.le.refl _,rfl,rfl⟩
   ·cases hx3 hg
    rw [decide_eq_false hg] at h3
    refine jK (h3 _) ?_;rintro s3 rfl
    refine jE ?_
    refine jA ?_
    refine jI ?_
    exact ⟨_,_,tupN_weak _,AS.le.refl _,rfl,rfl⟩
  ·cases hx2 hC
   rw [decide_eq_true hS] at h1
   rw [decide_eq_false hC] at h2
   clear hx1 hx2 hx3 hx4 hx5 hx6 hx7 hx8 hF hR hrc hrt hf ht hS hC h3
   obtain ⟨cg,ce,cs,cp,ch,cpa,cc,cm⟩:=C
   obtain ⟨sg,se,st,sc,si⟩:=S
   unfold CommitV.cells StV.cells at *
   simp only at *
   unfold treeV bytesV at *
   generalize rowC NodeV.cells st = X at *
   generalize rowC PropV.cells cp = CP at *
   generalize rowC StepV.cells cpa.steps = CS at *
   refine awp_reg_frz2 2 3 (by decide) (by decide) (by decide) ?_
   intro K hK
   simp only [↓DM,pval,DX,Nz,↓DN,Qa,Qb,Qc,Qd,Qe,Qf,Qg,Qh,reduceCtorEq,↓reduceIte,Na,Nb,Nc,Nk,Nf,Ng,Nh,Za,Zb,Zc,TT]
   intro o1 q1 o2 q2
   refine hK _ _ o1 o2 _ _ (by simp only [upd,Nc,↓reduceIte]) (by simp only [upd,Nc,↓reduceIte]) q1 (by rw [AS.set_objs_eq]; exact q2) ?_
   clear hK K q1 q2
   refine wK fun K hK=>?_
   refine awp_block ?_
   refine jQ fun K hK=>?_
   refine acallk (h1 _) ?_
   rintro r s1 ⟨rfl,rfl⟩
   simp only [↓DM,pval,DX,Nz,↓DN,Qa,Qb,Qc,Qd,Qe,Qf,Qg,Qh,reduceCtorEq,↓reduceIte,Na,Nb,Nc,Nk,Nf,Ng,Nh,Za,Zb,Zc,TT]
   refine acallk (h2 _) ?_
   rintro r s2 ⟨rfl,rfl⟩
   refine jR hK ?_;clear hK K
   refine jE ?_
   refine jA ?_
   refine jI ?_
   exact ⟨_,_,tupN_weak _,AS.le.refl _,rfl,rfl⟩
 ·cases hx1 hS
  rw [decide_eq_false hS] at h1
  clear hx1 hx2 hx3 hx4 hx5 hx6 hx7 hx8 hF hR hrc hrt hf ht hS h3 h2
  obtain ⟨cg,ce,cs,cp,ch,cpa,cc,cm⟩:=C
  obtain ⟨sg,se,st,sc,si⟩:=S
  unfold CommitV.cells StV.cells at *
  simp only at *
  unfold treeV bytesV at *
  generalize rowC NodeV.cells st = X at *
  generalize rowC PropV.cells cp = CP at *
  generalize rowC StepV.cells cpa.steps = CS at *
  refine awp_reg_frz2 2 3 (by decide) (by decide) (by decide) ?_
  intro K hK
  simp only [↓DM,pval,DX,Nz,↓DN,Qa,Qb,Qc,Qd,Qe,Qf,Qg,Qh,reduceCtorEq,↓reduceIte,Na,Nb,Nc,Nk,Nf,Ng,Nh,Za,Zb,Zc,TT]
  intro o1 q1 o2 q2
  refine hK _ _ o1 o2 _ _ (by simp only [upd,Nc,↓reduceIte]) (by simp only [upd,Nc,↓reduceIte]) q1 (by rw [AS.set_objs_eq]; exact q2) ?_
  clear hK K q1 q2
  refine wK fun K hK=>?_
  refine awp_block ?_
  refine jK (h1 _) ?_;rintro s1 rfl
  refine jE ?_
  refine jA ?_
  refine jI ?_
  exact ⟨_,_,tupN_weak _,AS.le.refl _,rfl,rfl⟩
theorem needsNil_calls (C : CommitV) (h0 : C.props = []) (s : AS) : ACalls Tryz.prog Γ 91 [.agg C.cells] s (fun r s'=>r = .v (.bool true)∧s' = s):=by
 refine acalls_body Tryz.func91 rfl Tryz.ntmps91 Tryz.results91 (by simp) ?_
 obtain ⟨cg,ce,cs,cp,ch,cpa,cc,cm⟩:=C
 simp only at h0
 subst h0
 unfold CommitV.cells bytesV
 simp only
 generalize rowC StepV.cells cpa.steps = CS at *
 have hr0 : rowC PropV.cells [] = []:=rfl
 rw [hr0]
 refine awp_reg_frz 1 (by decide) ?_
 intro K hK
 simp only [↓DM,pval,DX,Nz,↓DN,Qa,Qb,Qc,Qd,Qe,Qf,Qg,Qh,reduceCtorEq,↓reduceIte,Na,Nb,Nc,Nk,Nf,Ng,Nh,Za,Zb,Zc,TT]
 intro o ho
 refine hK _ _ o _ (by simp only [upd,Nc,↓reduceIte]) ho ?_
 clear hK K ho
 refine jB (show (((0 : Nat) : Int) == 0) = true from rfl) ?_
 exact jJ
theorem nextBare_calls (hG : Γ 3 = dB64.map u8C) (S : StV) (ht : S.wf) (C : CommitV) (hf : CommitV.fits C) (h0 : C.props = []) (hp : C.hasPath = false) (hT : pubFoldT S C (S.tree,[],true) = (S.tree,[],0)) (s : AS) :
  ACalls Tryz.prog Γ 30 [.agg S.cells,.agg C.cells] s (fun r s'=>r = .tup [.agg StV.nought.cells,intsV [] .any,.v (.int .i64 45)]∧s' = s):=by
 refine acalls_body Tryz.func30 rfl Tryz.ntmps30 Tryz.results30 (by simp) ?_
 have h1:=fun s=>pubFold_calls (Γ:=Γ) hG S ht C hf (S.tree,[],true) (fun _ _ _ s=>by
  rw [h0]
  exact foldedNil_calls (Γ:=Γ) S.tree C.sender s) (fun h _ _ _=>h.2.2.2.1) s
 rw [hT] at h1
 have h2:=fun s=>needsNil_calls (Γ:=Γ) C h0 s
 simp only at h1
 clear hT ht hf
 obtain ⟨cg,ce,cs,cp,ch,cpa,cc,cm⟩:=C
 simp only at h0 hp
 subst h0 hp
 obtain ⟨sg,se,st,sc,si⟩:=S
 unfold CommitV.cells StV.cells at *
 simp only at *
 generalize treeN st = TN at *
 unfold treeV bytesV intsV at *
 generalize rowC NodeV.cells st = X at *
 generalize rowC StepV.cells cpa.steps = CS at *
 have hr0 : rowC PropV.cells [] = []:=rfl
 rw [hr0] at *
 refine awp_reg_frz2 2 3 (by decide) (by decide) (by decide) ?_
 intro K hK
 simp only [↓DM,pval,DX,Nz,↓DN,Qa,Qb,Qc,Qd,Qe,Qf,Qg,Qh,reduceCtorEq,↓reduceIte,Na,Nb,Nc,Nk,Nf,Ng,Nh,Za,Zb,Zc,TT]
 intro o1 q1 o2 q2 o3 q3
 obtain ⟨e3,r1,r2,r3⟩:=AS.set_three s q1 q2 q3 [.v (.slice none 0 0),.v (.int .i64 0),.v (.slice none 0 0),.v (.slice none 0 0),.v (.slice none 0 0)]
 rw [e3]
 refine hK _ _ o1 o2 _ _ (by simp only [upd,Nc,↓reduceIte]) (by simp only [upd,Nc,↓reduceIte]) r1 r2 ?_
 clear hK K q1 q2 q3 e3 r1 r2
 refine jK (h1 _) ?_;rintro s1 rfl
 refine wK fun K hK=>?_
 refine awp_block ?_
 refine jB (show ((0 : Int) != 0) = false from rfl) ?_
 refine jF ?_
 refine jK (h2 _) ?_;rintro s2 rfl
 refine jE ?_
 refine jB @AS.set_objs_same ?_
 refine awp_ret ?_
 refine aends_cell_tmp2 (o:=o3) (off:=0) (by simp only [upd,Nc,↓reduceIte]) (AS.set_objs_same _ _ _) (by rw [T.c48]; decide) (by simp only [↓DN,Qa,Qb,Qc,Qd,Qe,Qf,Qg,Qh,reduceCtorEq,↓reduceIte,Na,Nb,Nc,Nk,Nf,Ng,Nh,Za,Zb,Zc,TT]; rfl) ?_
 exact ⟨_,s,AV.weak_tup3 noughtS_weak AV.weak_nil (AV.weak.refl _),AS.le_set (AS.le.refl _) r3 _,rfl,rfl⟩
def stA : StV:=(firstT [103] [97] 9).1
def cA : CommitV:=⟨[103],0,0,[],false,⟨0,[],[]⟩,zeros32,zeros32⟩
theorem cA_right : cA.right:=by decide +kernel
theorem cA_fits : CommitV.fits cA:=⟨by decide,by decide,(by intro x hx; cases hx)⟩
theorem lA_right : (leafN [97] 9).right:=by decide +kernel
theorem stA_eq : firstT [103] [97] 9 = (⟨[103],0,[leafN [97] 9],zeros32,Sha.sum (zeros32 ++ zeros32)⟩,0):=if_pos ⟨lA_right,by decide⟩
theorem stA_right : stA.right:=by
 unfold stA
 rw [stA_eq]
 exact ⟨by decide,by decide,by decide,new_right lA_right,by decide,Sha.sum_length _⟩
theorem stA_fold : pubFoldT stA cA (stA.tree,[],true) = (stA.tree,[],0):=by
 have hm : memI stA.tree 0:=by unfold stA; rw [stA_eq]; decide +kernel
 have e1 : stA.group = [103]:=by unfold stA; rw [stA_eq]
 have e2 : stA.epoch = 0:=by unfold stA; rw [stA_eq]
 unfold pubFoldT
 rw [if_neg (fun k=>k ⟨stA_right,cA_right⟩),if_neg (fun k=>k e1.symm),if_neg (fun k=>k e2.symm),if_neg (by rw [e2]; decide),if_neg (fun k=>k hm),if_pos rfl]
theorem awake24_calls (hG0 : Γ 0 = stC Sha.H0) (hG1 : Γ 1 = Sha.K.map wV) (hG : Γ 3 = dB64.map u8C) (s : AS) : ACalls Tryz.prog Γ 25 [] s (fun r s'=>r = .v (.bool true)∧s' = s):=by
 refine acalls_body Tryz.func25 rfl Tryz.ntmps25 Tryz.results25 (by simp) ?_
 have h1:=fun s=>pubFirst_calls (Γ:=Γ) hG0 hG1 [103] [97] 9 (by decide) (by decide) s
 have h2:=fun s=>nextBare_calls (Γ:=Γ) hG stA (fold_W stA_right.2.2.2.1) cA cA_fits rfl rfl stA_fold s
 have hst : (firstT [103] [97] 9).1 = stA:=rfl
 have he : (firstT [103] [97] 9).2 = 0:=by rw [stA_eq]
 rw [hst,he] at h1
 have e2 : stA.epoch = 0:=by unfold stA; rw [stA_eq]
 have e5 : stA.inter.length = 32:=stA_right.2.2.2.2.2
 have hzm:=zeros32_map
 have hcA : cA.cells = [.sl 1 1 [.v (.int .u8 103)] .any,.v (.int .i64 0),.v (.int .i64 0),.sl 5 0 [] .any,.v (.bool false),.v (.int .u64 0),.sl 1 0 [] .any,.sl 2 0 [] .any,.sl 1 32 (zeros32.map byteV) .any,.sl 1 32 (zeros32.map byteV) .any]:=rfl
 rw [hcA] at h2
 have hnc : StV.nought.cells = [.sl 1 0 [] .any,.v (.int .i64 0),.sl 5 0 [] .any,.sl 1 0 [] .any,.sl 1 0 [] .any]:=rfl
 rw [hnc] at h2
 generalize stA = S at *
 obtain ⟨sg,se,st,sc,si⟩:=S
 simp only at e2 e5
 subst e2
 unfold StV.cells at *
 simp only at *
 unfold treeV bytesV intsV at *
 rw [e5] at *
 generalize zeros32.map byteV = Z at *
 generalize rowC NodeV.cells st = X at *
 have hrep1 : ∀ x : AV,List.replicate 1 x = [x]:=fun _=>rfl
 refine jA ?_
 refine awp_reg_frz 1 (by decide) ?_
 intro K hK
 simp only [↓DM,pval,DX,Nz,↓DN,Qa,Qb,Qc,Qd,Qe,Qf,Qg,Qh,reduceCtorEq,↓reduceIte,Na,Nb,Nc,Nk,Nf,Ng,Nh,Za,Zb,Zc,TT,hrep1]
 refine acallk (ACalls.weaks (.cons AV.weak_any (.cons AV.weak_any (.cons (AV.weak.refl _) .nil))) (h1 _)) ?_
 rintro r s1 ⟨rfl,rfl⟩
 simp only [↓DM,pval,DX,Nz,↓DN,Qa,Qb,Qc,Qd,Qe,Qf,Qg,Qh,reduceCtorEq,↓reduceIte,Na,Nb,Nc,Nk,Nf,Ng,Nh,Za,Zb,Zc,TT]
 intro o1 q1
 refine hK _ _ o1 _ (by simp only [upd,Nc,↓reduceIte]) q1 ?_
 clear hK K q1
 refine awp_drf_seq T.mixed [11,12] [(3,32),(4,32)] [(6,.tup [.agg [.sl 1 0 [] .any,.v (.int .i64 0),.sl 5 0 [] .any,.sl 1 0 [] .any,.sl 1 0 [] .any],.sl 1 0 [] .any,.v (.int .i64 45)])] [11] (by kernel_rfl) ?_
 intro K hK
 simp only [↓AXz_nil,↓AXz_cons,↓AGiv_call,glook_nil,glook_cons,glookN_nil,glookN_cons,noughtV,pval,DX,Nat.reduceBEq,List.toList_toArray,List.map_cons,List.map_nil,aeval,↓DN,Qa,Qb,Qc,Qd,Qe,Qf,Qg,Qh,reduceCtorEq,↓reduceIte,Na,Nb,Nc,Nk,Nf,Ng,Nh,Za,Zb,Zc,TT,hrep1,hzm]
 refine agivk (fun s=>ACalls.weaks (.cons (AV.weak.refl _) (.cons (AV.weak_agg (.cons AV.weak_any (.cons (AV.weak.refl _) (.cons (AV.weak.refl _) (.cons AV.weak_nil (.cons (AV.weak.refl _) (.cons (AV.weak.refl _) (.cons AV.weak_nil (.cons AV.weak_nil (.cons AV.weak_any (.cons AV.weak_any .nil))))))))))) .nil)) (h2 s)) ?_
 intro o3 q3
 refine hK _ _ ?_;clear hK K
 refine jB (Ai (show ((0 : Int) == 0) = true from rfl) (Ai (show (((32 : Nat) : Int) == 32) = true from rfl) (show ((45 : Int) == 45) = true from rfl))) ?_
 refine jI ?_
 exact ⟨_,_,AV.weak.refl _,AS.le_set (AS.le.refl _) q3 _,rfl,rfl⟩
end Go.Proofs.YtfjlmkifiihgkaaGreatDoor
namespace Go.AM
open Go
structure FSt where
  t : List NodeV
  old : List Int
  fresh : List Int
def turnT (t : List NodeV) (p : PropV) : List NodeV × Int × Int :=
  if p.kind = 2 then ((updR t p.leaf p.key).1,p.leaf,(updR t p.leaf p.key).2)
  else if p.kind = 3 then ((remR t p.leaf).1,p.leaf,(remR t p.leaf).2)
  else ((addR t p.name p.key).1,((addR t p.name p.key).2.1 : Int),(addR t p.name p.key).2.2)
def fStep (k : Int) (p : PropV) (st : FSt) : Option FSt :=
  if p.kind≠k then some st
  else if (turnT st.t p).2.2≠0∨(k≠1∧(turnT st.t p).2.1 ∈ st.old) then none
  else if k = 1 then some ⟨(turnT st.t p).1,st.old,st.fresh ++ [(turnT st.t p).2.1]⟩
  else some ⟨(turnT st.t p).1,st.old ++ [(turnT st.t p).2.1],st.fresh⟩
def fPass (k : Int) : List PropV→FSt→Option FSt
  | [],st=>some st
  | p :: ps,st=>(fStep k p st).bind (fPass k ps)
def passes (ps : List PropV) : List Int→FSt→Option FSt
  | [],st=>some st
  | k :: ks,st=>(fPass k ps st).bind (passes ps ks)
def foldF (t : List NodeV) (sd : Int) (ps : List PropV) : List NodeV × List Int × Bool :=
  match passes ps [2,3,1] ⟨t,[sd],[]⟩ with
  | some st=>(st.t,st.fresh,true)
  | none=>([],[],false)
theorem turnT_case (t : List NodeV) (p : PropV) : ((turnT t p).1 = []∧(turnT t p).2.2≠0)∨(rightT (turnT t p).1∧(turnT t p).2.2 = 0):=by
  unfold turnT
  by_cases h2 : p.kind = 2
  · rw [if_pos h2]; exact step_upd t p.leaf p.key
  · rw [if_neg h2]
    by_cases h3 : p.kind = 3
    · rw [if_pos h3]; exact step_rm t p.leaf
    · rw [if_neg h3]; exact step_add t p.name p.key
theorem turnT_right {t : List NodeV} {p : PropV} (h : (turnT t p).2.2 = 0) : rightT (turnT t p).1:=by
  rcases turnT_case t p with ⟨_,k⟩ | ⟨k,_⟩
  · exact absurd h k
  · exact k
theorem fStep_skip {k : Int} {p : PropV} (st : FSt) (h : p.kind≠k) : fStep k p st = some st:=if_pos h
theorem fStep_err {k : Int} {p : PropV} {st : FSt} (h : p.kind = k) (he : (turnT st.t p).2.2≠0) : fStep k p st = none:=by
  unfold fStep; rw [if_neg (fun q=>q h),if_pos (.inl he)]
theorem fStep_dup {k : Int} {p : PropV} {st : FSt} (h : p.kind = k) (h1 : k≠1) (he : (turnT st.t p).2.1 ∈ st.old) : fStep k p st = none:=by
  unfold fStep; rw [if_neg (fun q=>q h),if_pos (.inr ⟨h1,he⟩)]
theorem fStep_add {p : PropV} {st : FSt} (h : p.kind = 1) (he : (turnT st.t p).2.2 = 0) : fStep 1 p st = some ⟨(turnT st.t p).1,st.old,st.fresh ++ [(turnT st.t p).2.1]⟩:=by
  unfold fStep; rw [if_neg (fun q=>q h),if_neg (by rintro (q | q); exact q he; exact q.1 rfl),if_pos rfl]
theorem fStep_old {k : Int} {p : PropV} {st : FSt} (h : p.kind = k) (h1 : k≠1) (he : (turnT st.t p).2.2 = 0) (hd : (turnT st.t p).2.1 ∉ st.old) : fStep k p st = some ⟨(turnT st.t p).1,st.old ++ [(turnT st.t p).2.1],st.fresh⟩:=by
  unfold fStep; rw [if_neg (fun q=>q h),if_neg (by rintro (q | q); exact q he; exact hd q.2),if_neg h1]
theorem fPass_drop {k : Int} {ps : List PropV} {j : Nat} (h : j < ps.length) (st : FSt) : fPass k (ps.drop j) st = (fStep k ps[j] st).bind (fPass k (ps.drop (j + 1))):=by
  rw [List.drop_eq_getElem_cons h]; rfl
theorem fStep_right {k : Int} {p : PropV} {st st' : FSt} (hr : rightT st.t) (h : fStep k p st = some st') : rightT st'.t:=by
  unfold fStep at h
  split at h
  · cases h; exact hr
  · split at h
    · cases h
    · rename_i h1 h2
      have he : (turnT st.t p).2.2 = 0:=Classical.byContradiction fun q=>h2 (.inl q)
      split at h <;> (cases h; exact turnT_right he)
theorem fPass_right {k : Int} : ∀ {ps : List PropV} {st st' : FSt},rightT st.t→fPass k ps st = some st'→rightT st'.t
  | [],st,st',hr,h=>by cases h; exact hr
  | p :: ps,st,st',hr,h=>by
    simp only [fPass] at h
    cases hs : fStep k p st with
    | none=>rw [hs] at h; cases h
    | some s1=>rw [hs] at h; exact fPass_right (fStep_right hr hs) h
theorem passes_right {ps : List PropV} : ∀ {ks : List Int} {st st' : FSt},rightT st.t→passes ps ks st = some st'→rightT st'.t
  | [],st,st',hr,h=>by cases h; exact hr
  | k :: ks,st,st',hr,h=>by
    simp only [passes] at h
    cases hs : fPass k ps st with
    | none=>rw [hs] at h; cases h
    | some s1=>rw [hs] at h; exact passes_right (fPass_right hr hs) h
theorem foldF_right {t : List NodeV} {sd : Int} {ps : List PropV} (hr : rightT t) (h : (foldF t sd ps).2.2 = true) : rightT (foldF t sd ps).1:=by
  unfold foldF at h ⊢
  split at h
  · rename_i st hs
    exact passes_right hr hs
  · cases h
def LBuf (s0 s : AS) (x : AV) (l : List Int) : Prop:=x = .sl 1 l.length (l.map intC) .new∨∃ t e,x = .sl 1 l.length (l.map intC) (.own t e)∧s.own t = some e∧s0.own t = none
theorem LBuf.weak {s0 s : AS} {x : AV} {l : List Int} (h : LBuf s0 s x l) : x.weak (intsV l .any):=by
  rcases h with rfl | ⟨t,e,rfl,_⟩
  · exact AV.weak_any
  · exact AV.weak_any
theorem prop_kinds {p : PropV} (h : p.right) : p.kind = 1∨p.kind = 2∨p.kind = 3:=by
  rcases h with h | h | h
  · exact .inl h.1
  · exact .inr (.inl h.1)
  · exact .inr (.inr h.1)
end Go.AM
namespace Go.Proofs.YtfjlmkifiihgkaaGreatDoor
open Go Go.AM Go.Proofs
variable {Γ : Nat→List AV}
theorem turned24_calls (hG : Γ 3 = dB64.map u8C) (t : List NodeV) (hr : rightT t) (p : PropV) (hp : p.right) (s : AS) :
  ACalls Tryz.prog Γ 160 [treeV t,.agg p.cells] s (fun r s'=>r = .tup [treeN (turnT t p).1,.v (.int .i64 (turnT t p).2.1),.v (.int .i64 (turnT t p).2.2)]∧s' = s):=by
 refine acalls_body Tryz.func160 rfl Tryz.ntmps160 Tryz.results160 (by simp) ?_
 have ht:=fold_W hr
 have hnl : p.name.length≤2 ^ 45:=by rcases hp with h | h | h <;> omega
 have h1:=fun s=>ACalls.tidy (add20_calls (Γ:=Γ) hG t ht p.name p.key hnl s)
 have h2:=fun s=>ACalls.tidy (update20_calls (Γ:=Γ) hG t ht p.leaf p.key s)
 have h3:=fun s=>ACalls.tidy (remove20_calls (Γ:=Γ) hG t ht p.leaf s)
 have hk:=prop_kinds hp
 have e1 : p.kind = 1→turnT t p = ((addR t p.name p.key).1,((addR t p.name p.key).2.1 : Int),(addR t p.name p.key).2.2):=fun h=>by unfold turnT; rw [if_neg (by omega),if_neg (by omega)]
 have e2 : p.kind = 2→turnT t p = ((updR t p.leaf p.key).1,p.leaf,(updR t p.leaf p.key).2):=fun h=>if_pos h
 have e3 : p.kind = 3→turnT t p = ((remR t p.leaf).1,p.leaf,(remR t p.leaf).2):=fun h=>by unfold turnT; rw [if_neg (by omega),if_pos h]
 generalize turnT t p = TT0 at *
 obtain ⟨pk,pl,pn,py,pi⟩:=p
 simp only at *
 generalize (addR t pn py).1 = A at *
 generalize (addR t pn py).2.1 = Ai at *
 generalize (addR t pn py).2.2 = Ae at *
 generalize (updR t pl py).1 = U at *
 generalize (updR t pl py).2 = Ue at *
 generalize (remR t pl).1 = R at *
 generalize (remR t pl).2 = Re at *
 clear hp hr ht hnl
 unfold PropV.cells
 simp only
 unfold treeV bytesV at *
 generalize rowC NodeV.cells t = X at *
 refine awp_reg_frz 3 (by decide) ?_
 intro K hK
 simp only [↓DM,pval,DX,Nz,↓DN,Qa,Qb,Qc,Qd,Qe,Qf,Qg,Qh,reduceCtorEq,↓reduceIte,Na,Nb,Nc,Nk,Nf,Ng,Nh,Za,Zb,Zc,TT]
 intro o ho
 refine hK _ _ o _ (by simp only [upd,Nc,↓reduceIte]) ho ?_
 clear hK K ho
 refine wK fun K hK=>?_
 refine jA ?_
 refine awp_block ?_
 rcases hk with rfl | rfl | rfl
 ·cases e1 rfl
  refine jB (show ((1 : Int) == 2) = false from rfl) ?_
  refine jF ?_
  refine jB (show ((1 : Int) == 3) = false from rfl) ?_
  refine jF ?_
  refine awp_skip ?_
  refine hK _ _ ?_;clear hK K
  refine jK (h1 _) ?_;rintro s1 rfl
  exact jJ
 ·cases e2 rfl
  refine jB (show ((2 : Int) == 2) = true from rfl) ?_
  refine jE ?_
  refine jK (h2 _) ?_;rintro s1 rfl
  refine awp_drw_seq T.mixed [] (by kernel_rfl) ?_
  intro K hK
  refine jR hK ?_;clear hK K
  exact jJ
 ·cases e3 rfl
  refine jB (show ((3 : Int) == 2) = false from rfl) ?_
  refine jF ?_
  refine jB (show ((3 : Int) == 3) = true from rfl) ?_
  refine jE ?_
  refine jK (h3 _) ?_;rintro s1 rfl
  refine awp_drw_seq T.mixed [] (by kernel_rfl) ?_
  intro K hK
  refine jR hK ?_;clear hK K
  exact jJ
def kn (i : Nat) : Int:=if i = 0 then 2 else if i = 1 then 3 else 1
theorem kn_at {i : Nat} (h : i < 3) : List.take 1 (List.drop i ([2,3,1].map intC)) = [.v (.int .i64 (kn i))]:=by
 have : i = 0∨i = 1∨i = 2:=by omega
 rcases this with rfl | rfl | rfl <;> rfl
theorem kn_drop {i : Nat} (h : i < 3) : [(2 : Int),3,1].drop i = kn i :: [(2 : Int),3,1].drop (i + 1):=by
 have : i = 0∨i = 1∨i = 2:=by omega
 rcases this with rfl | rfl | rfl <;> rfl
theorem folded24_calls (hG : Γ 3 = dB64.map u8C) (t : List NodeV) (hr : rightT t) (sd : Int) (ps : List PropV) (hp : ∀ p ∈ ps,p.right) (hpl : ps.length≤16) (s : AS) :
  ACalls Tryz.prog Γ 89 [treeV t,.v (.int .i64 sd),.sl 5 ps.length (rowC PropV.cells ps) .any] s (fun r s'=>r = .tup [if (foldF t sd ps).2.2 = true then treeV (foldF t sd ps).1 else nilS,intsV (foldF t sd ps).2.1 .any,.v (.bool (foldF t sd ps).2.2)]∧s' = s):=by
 refine ACalls.tidy (Q:=fun r=>r = .tup [if (foldF t sd ps).2.2 = true then treeV (foldF t sd ps).1 else nilS,intsV (foldF t sd ps).2.1 .any,.v (.bool (foldF t sd ps).2.2)]) ?_
 refine acalls_body Tryz.func89 rfl Tryz.ntmps89 Tryz.results89 (by simp) ?_
 have hat:=fun (i : Nat) (h : i < 3)=>kn_at h
 have hcs : [AV.v (.int .i64 2),.v (.int .i64 3),.v (.int .i64 1)] = [2,3,1].map intC:=rfl
 have hrow:=fun i (h : i < ps.length)=>row_at (c:=PropV.cells) (k:=5) (fun _=>rfl) h
 obtain ⟨R0,hR0⟩ : ∃ R0,R0 = passes ps [2,3,1] ⟨t,[sd],[]⟩:=⟨_,rfl⟩
 have hnone : R0 = none→foldF t sd ps = ([],[],false):=fun h=>by unfold foldF; rw [← hR0,h]
 have hsome : ∀ st,R0 = some st→foldF t sd ps = (st.t,st.fresh,true):=fun st h=>by unfold foldF; rw [← hR0,h]
 generalize foldF t sd ps = FF at *
 have hbad : R0 = none→∀ s6 : AS,s.le s6→∃ r s',(AV.tup [.v (.slice none 0 0),.v (.slice none 0 0),.v (.bool false)]).weak r∧s'.le s6∧(r = .tup [if FF.2.2 = true then treeV FF.1 else nilS,intsV FF.2.1 .any,.v (.bool FF.2.2)]∧s.le s'):=fun h s6 hle=>by
  cases hnone h
  exact ⟨_,s6,AV.weak_tup3 (AV.weak.refl _) AV.weak_nil (AV.weak.refl _),AS.le.refl _,rfl,hle⟩
 clear hnone
 generalize hks : [2,3,1].map intC = KS at *
 have htV : ∀ u,treeV u = .sl 5 u.length (rowC NodeV.cells u) .any:=fun _=>rfl
 have hX0 : treeV t = .sl 5 t.length (rowC NodeV.cells t) .any:=rfl
 rw [hX0]
 generalize hPX : rowC PropV.cells ps = PX at *
 refine jA ?_
 refine jA ?_
 refine wS fun K hK=>?_
 simp only [↓DN,Qa,Qb,Qc,Qd,Qe,Qf,Qg,Qh,reduceCtorEq,↓reduceIte,Na,Nb,Nc,Nk,Nf,Ng,Nh,Za,Zb,Zc,TT,List.replicate_succ,List.replicate_zero]
 refine hK _ _ ?_;clear hK K
 refine wK fun K hK=>?_
 refine jA ?_
 refine awp_block ?_
 refine awp_loop (fun E s2=>∃ (i : Nat) (st : FSt),i≤3∧rightT st.t∧passes ps ([2,3,1].drop i) st = R0∧E 22 = .v (.int .i64 i)∧E 21 = .v (.int .i64 3)∧E 20 = .sl 1 3 KS .new∧E 0 = .sl 5 st.t.length (rowC NodeV.cells st.t) .any∧E 2 = .sl 5 ps.length PX .any∧s.le s2 ∧
   (i < 2→E 9 = .v (.slice none 0 0)∧st.fresh = []∧LBuf s s2 (E 10) st.old)∧(2≤i→RBuf 1 s s2 (E 9) st.fresh.length (st.fresh.map intC))∧st.old.length + st.fresh.length≤1 + i * 16)
  (fun E _=>match E 22 with | .v (.int _ i)=>3 - i.toNat | _=>0) ?_ ?_
 ·refine ⟨0,⟨t,[sd],[]⟩,by decide,hr,hR0.symm,by simp only [upd,Nc,↓reduceIte]; rfl,by simp only [upd,Nc,↓reduceIte]; rfl,?_,by simp only [upd,initE,List.getD_cons_zero,List.getD_cons_succ,Nc,↓reduceIte],by simp only [upd,initE,List.getD_cons_zero,List.getD_cons_succ,Nc,↓reduceIte],AS.le.refl _,fun _=>⟨(by simp only [upd,Nc,↓reduceIte]),rfl,.inl (by simp only [upd,Nc,↓reduceIte]; rfl)⟩,fun h=>absurd h (by decide),by simp⟩
  simp only [upd,Nc,↓reduceIte]
  rw [← hcs]
  rfl
 ·rintro E1 s4 ⟨i,st,hi,hrt,hpass,g22,g21,g20,g0,g2,hle,hlo,hhi,hlen⟩ -
  by_cases hi' : i < 3
  ·refine jB (Ai @g22 (Ai @g21 (decide_eq_true (show ((i : Nat) : Int) < 3 by omega)))) ?_
   refine wK fun K2 hK2=>?_
   refine jE ?_
   refine awp_skip ?_
   refine hK2 _ _ ?_;clear hK2 K2
   refine wK fun K3 hK3=>?_
   refine awp_block ?_
   have hge : (0 : Int)≤(i : Int):=by omega
   have hat':=hat i hi'
   rw [kn_drop hi'] at hpass
   have q22:=g22
   have hnext : ∀ (E : Env) (s5 : AS) (st : FSt),rightT st.t→passes ps ([2,3,1].drop (i + 1)) st = R0→E 22 = .v (.int .i64 i)→E 21 = .v (.int .i64 3)→E 20 = .sl 1 3 KS .new→E 0 = .sl 5 st.t.length (rowC NodeV.cells st.t) .any→E 2 = .sl 5 ps.length PX .any→s.le s5 →
     (i + 1 < 2→E 9 = .v (.slice none 0 0)∧st.fresh = []∧LBuf s s5 (E 10) st.old)→(2≤i + 1→RBuf 1 s s5 (E 9) st.fresh.length (st.fresh.map intC))→st.old.length + st.fresh.length≤1 + (i + 1) * 16→K3 E s5:=by
    intro E s5 st hrt hpass g22 g21 g20 g0 g2 hle hlo hhi hlen
    refine hK3 _ _ ?_;clear hK3 K3
    refine jD (Ai @g22 (eye_succM i (by omega))) ?_
    refine ⟨⟨i + 1,st,by omega,hrt,hpass,by simp only [upd,Nc,↓reduceIte],by simp only [upd,g21,Nc,↓reduceIte],by simp only [upd,g20,Nc,↓reduceIte],by simp only [upd,g0,Nc,↓reduceIte],by simp only [upd,g2,Nc,↓reduceIte],hle,?_,?_,hlen⟩,?_⟩
    ·simpa only [upd,Nc,↓reduceIte] using hlo
    ·simpa only [upd,Nc,↓reduceIte] using hhi
    ·simp only [q22,upd,↓reduceIte]
     omega
   clear hK3
   refine jB (Ai @g20 (Ai @g22 (Ai @hge (Ai @hi' (Ai @hat' @eye_lt_nat))))) ?_
   refine jB @g2 ?_
   refine awp_block ?_
   obtain ⟨k,hkk⟩ : ∃ k,k = kn i:=⟨_,rfl⟩
   rw [← hkk] at hpass ⊢
   have hk12 : (i < 2→k = 2∨k = 3)∧(2≤i→k = 1):=by
    unfold kn at hkk
    have : i = 0∨i = 1∨i = 2:=by omega
    rcases this with rfl | rfl | rfl <;> simp at hkk <;> omega
   refine awp_loop (fun E s5=>∃ (j : Nat) (st : FSt),j≤ps.length∧rightT st.t∧(fPass k (ps.drop j) st).bind (passes ps ([2,3,1].drop (i + 1))) = R0∧E 28 = .v (.int .i64 j)∧E 27 = .v (.int .i64 ps.length)∧E 26 = .sl 5 ps.length PX .any∧E 12 = .v (.int .i64 k)∧E 22 = .v (.int .i64 i)∧E 21 = .v (.int .i64 3)∧E 20 = .sl 1 3 KS .new∧E 0 = .sl 5 st.t.length (rowC NodeV.cells st.t) .any∧E 2 = .sl 5 ps.length PX .any∧s.le s5 ∧
     (i < 2→E 9 = .v (.slice none 0 0)∧st.fresh = []∧LBuf s s5 (E 10) st.old)∧(2≤i→RBuf 1 s s5 (E 9) st.fresh.length (st.fresh.map intC))∧st.old.length + st.fresh.length≤1 + i * 16 + j)
    (fun E _=>match E 28 with | .v (.int _ i)=>ps.length - i.toNat | _=>0) ?_ ?_
   ·refine ⟨0,st,Nat.zero_le _,hrt,hpass,by simp only [upd,Nc,↓reduceIte]; rfl,by simp only [upd,Nc,↓reduceIte],by simp only [upd,g2,Nc,↓reduceIte],by simp only [upd,Nc,↓reduceIte],by simp only [upd,g22,Nc,↓reduceIte],by simp only [upd,g21,Nc,↓reduceIte],by simp only [upd,g20,Nc,↓reduceIte],by simp only [upd,g0,Nc,↓reduceIte],by simp only [upd,g2,Nc,↓reduceIte],hle,?_,?_,by omega⟩
    ·simpa only [upd,Nc,↓reduceIte] using hlo
    ·simpa only [upd,Nc,↓reduceIte] using hhi
   ·clear hlo hhi hle g22 g21 g20 g0 g2 hpass hrt hlen st
    rintro E2 s5 ⟨j,st,hj,hrt,hpass,g28,g27,g26,g12,g22,g21,g20,g0,g2,hle,hlo,hhi,hlen⟩ -
    by_cases hj' : j < ps.length
    ·refine jB (Ai @g28 (Ai @g27 (Ai @eye_lt_nat (decide_eq_true hj')))) ?_
     refine wK fun K5 hK5=>?_
     refine jE ?_
     refine awp_skip ?_
     refine hK5 _ _ ?_;clear hK5 K5
     refine wK fun K6 hK6=>?_
     refine awp_block ?_
     have hgej : (0 : Int)≤(j : Int):=by omega
     have hrow':=hrow j hj'
     have hpr:=hp _ (List.getElem_mem hj')
     rw [fPass_drop hj'] at hpass
     generalize ps[j] = p at *
     have q28:=g28
     have hstep : ∀ (E : Env) (s6 : AS) (st : FSt),rightT st.t→(fPass k (ps.drop (j + 1)) st).bind (passes ps ([2,3,1].drop (i + 1))) = R0→E 28 = .v (.int .i64 j)→E 27 = .v (.int .i64 ps.length)→E 26 = .sl 5 ps.length PX .any→E 12 = .v (.int .i64 k)→E 22 = .v (.int .i64 i)→E 21 = .v (.int .i64 3)→E 20 = .sl 1 3 KS .new→E 0 = .sl 5 st.t.length (rowC NodeV.cells st.t) .any→E 2 = .sl 5 ps.length PX .any→s.le s6 →
       (i < 2→E 9 = .v (.slice none 0 0)∧st.fresh = []∧LBuf s s6 (E 10) st.old)→(2≤i→RBuf 1 s s6 (E 9) st.fresh.length (st.fresh.map intC))→st.old.length + st.fresh.length≤1 + i * 16 + (j + 1)→K6 E s6:=by
      intro E s6 st hrt hpass g28 g27 g26 g12 g22 g21 g20 g0 g2 hle hlo hhi hlen
      refine hK6 _ _ ?_;clear hK6 K6
      refine jD (Ai @g28 (eye_succM j (by omega))) ?_
      refine ⟨⟨j + 1,st,by omega,hrt,hpass,by simp only [upd,Nc,↓reduceIte],by simp only [upd,g27,Nc,↓reduceIte],by simp only [upd,g26,Nc,↓reduceIte],by simp only [upd,g12,Nc,↓reduceIte],by simp only [upd,g22,Nc,↓reduceIte],by simp only [upd,g21,Nc,↓reduceIte],by simp only [upd,g20,Nc,↓reduceIte],by simp only [upd,g0,Nc,↓reduceIte],by simp only [upd,g2,Nc,↓reduceIte],hle,?_,?_,hlen⟩,?_⟩
      ·simpa only [upd,Nc,↓reduceIte] using hlo
      ·simpa only [upd,Nc,↓reduceIte] using hhi
      ·simp only [q28,upd,↓reduceIte]
       omega
     clear hK6
     have htn:=fun s=>turned24_calls (Γ:=Γ) hG st.t hrt p hpr s
     have htc:=turnT_case st.t p
     have hpk:=prop_kinds hpr
     have f1:=fStep_skip (k:=k) (p:=p) st
     have f2:=fStep_err (k:=k) (p:=p) (st:=st)
     have f3:=fStep_dup (k:=k) (p:=p) (st:=st)
     have f4:=fStep_add (p:=p) (st:=st)
     have f5:=fStep_old (k:=k) (p:=p) (st:=st)
     obtain ⟨pk,pl,pn,py,pi⟩:=p
     simp only at f1 f2 f3 f4 f5 hpk
     unfold PropV.cells at hrow' htn
     simp only at hrow' htn
     rw [htV st.t] at htn
     unfold bytesV at hrow' htn
     refine awp_reg_frz 14 (by decide) ?_
     intro K7 hK7
     simp only [↓DM,pval,DX,Nz,↓DN,Qa,Qb,Qc,Qd,Qe,Qf,Qg,Qh,reduceCtorEq,↓reduceIte,Na,Nb,Nc,Nk,Nf,Ng,Nh,Za,Zb,Zc,TT,g26,g28,hgej,hj',hrow',eye_lt_nat]
     intro o1 q1
     refine hK7 _ _ o1 _ (by simp only [upd,Nc,↓reduceIte]) q1 ?_
     clear hK7 K7 q1
     refine wK fun K7 hK7=>?_
     by_cases hpk' : pk = k
     ·refine jB (Ai @g12 (int_bne_false hpk')) ?_
      refine jF ?_
      refine awp_skip ?_
      refine hK7 _ _ ?_;clear hK7 K7
      refine jS @g0 fun K hK=>?_
      refine acallk (htn _) ?_
      rintro r s6 ⟨rfl,rfl⟩
      refine jR hK ?_;clear hK K
      clear htn
      generalize turnT st.t ⟨pk,pl,pn,py,pi⟩ = W at *
      obtain ⟨u,lf,er⟩:=W
      simp only at *
      refine wK fun K8 hK8=>?_
      by_cases her : er = 0
      ·subst her
       have hru : rightT u:=by
        rcases htc with ⟨_,q⟩ | ⟨q,_⟩
        ·exact absurd rfl q
        ·exact q
       rw [treeN_ne (right_ne hru),htV u]
       clear htc f2
       by_cases hi2 : i < 2
       ·obtain ⟨g9,hfr,hob⟩:=hlo hi2
        have hk1 : k≠1:=by have:=hk12.1 hi2; omega
        have hct:=fun s=>contains_calls (Γ:=Γ) st.old lf (by omega) s
        by_cases hmem : lf ∈ st.old
        ·rw [f3 hpk' hk1 hmem] at hpass
         rw [decide_eq_true hmem] at hct
         refine jS (Ai @g12 (Ai (show ((0 : Int) != 0) = false from rfl) (int_bne_true hk1))) fun K hK=>?_
         refine acallk (ACalls.weaks (.cons hob.weak (.cons (AV.weak.refl _) .nil)) (hct _)) ?_
         rintro r s7 ⟨rfl,rfl⟩
         refine jR hK ?_;clear hK K
         refine jE ?_
         refine jA ?_
         refine jI ?_
         exact hbad hpass.symm _ hle
        ·rw [f5 hpk' hk1 rfl hmem] at hpass
         rw [decide_eq_false hmem] at hct
         refine jS (Ai @g12 (Ai (show ((0 : Int) != 0) = false from rfl) (int_bne_true hk1))) fun K hK=>?_
         refine acallk (ACalls.weaks (.cons hob.weak (.cons (AV.weak.refl _) .nil)) (hct _)) ?_
         rintro r s7 ⟨rfl,rfl⟩
         refine jR hK ?_;clear hK K
         refine jF ?_
         refine awp_skip ?_
         refine hK8 _ _ ?_;clear hK8 K8
         refine jA ?_
         refine jB (Ai @g12 (int_eq_no hk1)) ?_
         refine jF ?_
         have hfin : ∀ (E : Env) (s8 : AS),E 28 = .v (.int .i64 j)→E 27 = .v (.int .i64 ps.length)→E 26 = .sl 5 ps.length PX .any→E 12 = .v (.int .i64 k)→E 22 = .v (.int .i64 i)→E 21 = .v (.int .i64 3)→E 20 = .sl 1 3 KS .new→E 0 = .sl 5 u.length (rowC NodeV.cells u) .any→E 2 = .sl 5 ps.length PX .any→E 9 = .v (.slice none 0 0)→s.le s8→LBuf s s8 (E 10) (st.old ++ [lf])→K6 E s8 :=
          fun E s8 a1 a2 a3 a4 a5 a6 a7 a8 a9 a10 a11 a12=>hstep E s8 ⟨u,st.old ++ [lf],st.fresh⟩ hru hpass a1 a2 a3 a4 a5 a6 a7 a8 a9 a11 (fun _=>⟨a10,hfr,a12⟩) (fun q=>absurd hi2 (by omega)) (by simp only [List.length_append,List.length_singleton]; omega)
         rcases hob with h10 | ⟨tk,e,h10,ht,ht0⟩
         ·refine wE fun K hK=>?_
          simp only [↓DN,Qa,Qb,Qc,Qd,Qe,Qf,Qg,Qh,reduceCtorEq,↓reduceIte,Na,Nb,Nc,Nk,Nf,Ng,Nh,Za,Zb,Zc,TT,h10,List.replicate_succ,List.replicate_zero]
          refine ⟨by omega,by omega,fun tk ht=>?_⟩
          refine hK _ _ (hfin _ _ (by simp only [upd,g28,Nc,↓reduceIte]) (by simp only [upd,g27,Nc,↓reduceIte]) (by simp only [upd,g26,Nc,↓reduceIte]) (by simp only [upd,g12,Nc,↓reduceIte]) (by simp only [upd,g22,Nc,↓reduceIte]) (by simp only [upd,g21,Nc,↓reduceIte]) (by simp only [upd,g20,Nc,↓reduceIte]) (by simp only [upd,Nc,↓reduceIte]) (by simp only [upd,g2,Nc,↓reduceIte]) (by simp only [upd,g9,Nc,↓reduceIte]) (AS.le_gain hle (own_none_le hle ht) 0) ?_)
          refine .inr ⟨tk,0,?_,by simp [AS.gain],own_none_le hle ht⟩
          simp only [upd,Nc,↓reduceIte]
          rw [List.length_append,List.map_append]
          rfl
         ·refine wE fun K hK=>?_
          simp only [↓DN,Qa,Qb,Qc,Qd,Qe,Qf,Qg,Qh,reduceCtorEq,↓reduceIte,Na,Nb,Nc,Nk,Nf,Ng,Nh,Za,Zb,Zc,TT,h10,List.replicate_succ,List.replicate_zero,ht]
          refine ⟨by omega,by omega,hK _ _ (hfin _ _ (by simp only [upd,g28,Nc,↓reduceIte]) (by simp only [upd,g27,Nc,↓reduceIte]) (by simp only [upd,g26,Nc,↓reduceIte]) (by simp only [upd,g12,Nc,↓reduceIte]) (by simp only [upd,g22,Nc,↓reduceIte]) (by simp only [upd,g21,Nc,↓reduceIte]) (by simp only [upd,g20,Nc,↓reduceIte]) (by simp only [upd,Nc,↓reduceIte]) (by simp only [upd,g2,Nc,↓reduceIte]) (by simp only [upd,g9,Nc,↓reduceIte]) (AS.le_gain hle ht0 (e + 1)) ?_)⟩
          refine .inr ⟨tk,e + 1,?_,by simp [AS.gain],ht0⟩
          simp only [upd,Nc,↓reduceIte]
          rw [List.length_append,List.map_append]
          rfl
       ·have hrb:=hhi (by omega)
        obtain rfl : k = 1:=hk12.2 (by omega)
        rw [f4 hpk' rfl] at hpass
        refine jB (Ai @g12 (Ai (show ((0 : Int) != 0) = false from rfl) (show ((1 : Int) != 1) = false from rfl))) ?_
        refine jF ?_
        refine awp_skip ?_
        refine hK8 _ _ ?_;clear hK8 K8
        refine jA ?_
        refine jB (Ai @g12 (show ((1 : Int) == 1) = true from rfl)) ?_
        refine jE ?_
        rcases hrb with ⟨h9,hz,hz2⟩ | ⟨tk,e,h9,ht,ht0⟩
        ·refine wE fun K hK=>?_
         simp only [↓DN,Qa,Qb,Qc,Qd,Qe,Qf,Qg,Qh,reduceCtorEq,↓reduceIte,Na,Nb,Nc,Nk,Nf,Ng,Nh,Za,Zb,Zc,TT,h9,nilS,List.replicate_succ,List.replicate_zero]
         intro tk ht
         have hfe : st.fresh = []:=List.length_eq_zero_iff.1 hz
         refine hK _ _ (hstep _ _ ⟨u,st.old,st.fresh ++ [lf]⟩ hru hpass (by simp only [upd,g28,Nc,↓reduceIte]) (by simp only [upd,g27,Nc,↓reduceIte]) (by simp only [upd,g26,Nc,↓reduceIte]) (by simp only [upd,g12,Nc,↓reduceIte]) (by simp only [upd,g22,Nc,↓reduceIte]) (by simp only [upd,g21,Nc,↓reduceIte]) (by simp only [upd,g20,Nc,↓reduceIte]) (by simp only [upd,Nc,↓reduceIte]) (by simp only [upd,g2,Nc,↓reduceIte]) (AS.le_gain hle (own_none_le hle ht) 0) (fun q=>absurd q hi2) (fun _=>?_) (by simp only [List.length_append,List.length_singleton]; omega))
         refine .inr ⟨tk,0,?_,by simp [AS.gain],own_none_le hle ht⟩
         simp only [upd,Nc,↓reduceIte]
         rw [hfe]
         rfl
        ·refine wE fun K hK=>?_
         simp only [↓DN,Qa,Qb,Qc,Qd,Qe,Qf,Qg,Qh,reduceCtorEq,↓reduceIte,Na,Nb,Nc,Nk,Nf,Ng,Nh,Za,Zb,Zc,TT,h9,List.replicate_succ,List.replicate_zero,ht]
         refine ⟨by omega,by omega,hK _ _ (hstep _ _ ⟨u,st.old,st.fresh ++ [lf]⟩ hru hpass (by simp only [upd,g28,Nc,↓reduceIte]) (by simp only [upd,g27,Nc,↓reduceIte]) (by simp only [upd,g26,Nc,↓reduceIte]) (by simp only [upd,g12,Nc,↓reduceIte]) (by simp only [upd,g22,Nc,↓reduceIte]) (by simp only [upd,g21,Nc,↓reduceIte]) (by simp only [upd,g20,Nc,↓reduceIte]) (by simp only [upd,Nc,↓reduceIte]) (by simp only [upd,g2,Nc,↓reduceIte]) (AS.le_gain hle ht0 (e + 1)) (fun q=>absurd q hi2) (fun _=>?_) (by simp only [List.length_append,List.length_singleton]; omega))⟩
         refine .inr ⟨tk,e + 1,?_,by simp [AS.gain],ht0⟩
         simp only [upd,Nc,↓reduceIte]
         rw [List.length_append,List.map_append]
         rfl
      ·rw [f2 hpk' her] at hpass
       refine jB (int_bne_true her) ?_
       refine jE ?_
       refine jA ?_
       refine jI ?_
       exact hbad hpass.symm _ hle
     ·rw [f1 hpk'] at hpass
      refine jB (Ai @g12 (int_bne_true hpk')) ?_
      refine jE ?_
      refine awp_exit ?_
      simp only [thenQ,blockQ,if_true,if_false,Nc]
      refine hstep _ _ st hrt hpass (by simp only [upd,g28,Nc,↓reduceIte]) (by simp only [upd,g27,Nc,↓reduceIte]) (by simp only [upd,g26,Nc,↓reduceIte]) (by simp only [upd,g12,Nc,↓reduceIte]) (by simp only [upd,g22,Nc,↓reduceIte]) (by simp only [upd,g21,Nc,↓reduceIte]) (by simp only [upd,g20,Nc,↓reduceIte]) (by simp only [upd,g0,Nc,↓reduceIte]) (by simp only [upd,g2,Nc,↓reduceIte]) hle ?_ ?_ (by omega)
      ·simpa only [upd,Nc,↓reduceIte] using hlo
      ·simpa only [upd,Nc,↓reduceIte] using hhi
    ·refine jB (Ai @g28 (Ai @g27 (Ai @eye_lt_nat (decide_eq_false hj')))) ?_
     refine wK fun K5 hK5=>?_
     refine jF ?_
     refine awp_exit ?_
     simp only [thenQ,blockQ,if_true,if_false,Nc]
     obtain rfl : j = ps.length:=by omega
     rw [List.drop_length] at hpass
     refine hnext _ _ st hrt hpass (by simp only [upd,g22,Nc,↓reduceIte]) (by simp only [upd,g21,Nc,↓reduceIte]) (by simp only [upd,g20,Nc,↓reduceIte]) (by simp only [upd,g0,Nc,↓reduceIte]) (by simp only [upd,g2,Nc,↓reduceIte]) hle ?_ ?_ (by omega)
     ·simp only [upd,Nc,↓reduceIte]
      exact fun h=>hlo (by omega)
     ·simp only [upd,Nc,↓reduceIte]
      intro h
      by_cases h2 : i < 2
      ·obtain ⟨z1,z2,_⟩:=hlo h2
       rw [z1,z2]
       exact RBuf.nil _ _ _
      ·exact hhi (by omega)
  ·refine jB (Ai @g22 (Ai @g21 (decide_eq_false (show ¬ ((i : Nat) : Int) < 3 by omega)))) ?_
   refine wK fun K2 hK2=>?_
   refine jF ?_
   refine awp_exit ?_
   simp only [thenQ,blockQ,if_true]
   refine hK _ _ ?_;clear hK hK2 K2 K
   obtain rfl : i = 3:=by omega
   cases hsome st hpass.symm
   have hb:=hhi (by decide)
   refine jB @g0 ?_
   refine jI ?_
   exact ⟨_,_,AV.weak_tup3 (AV.weak.refl _) hb.weak (AV.weak.refl _),AS.le.refl _,rfl,hle⟩
end Go.Proofs.YtfjlmkifiihgkaaGreatDoor
namespace Go.Proofs.YtfjlmkifiihgkaaGreatDoor
open Go Go.AM Go.Proofs
variable {Γ : Nat→List AV}
def smallS (S : StV) : Prop:=(S.tree.length≤31∧S.group.length≤40∧S.conf.length≤60∧S.inter.length≤60)∧∀ n ∈ S.tree,smallN n
instance (S : StV) : Decidable (smallS S):=by unfold smallS; infer_instance
theorem small24_calls (S : StV) (s : AS) : ACalls Tryz.prog Γ 26 [.agg S.cells] s (fun r s'=>r = .v (.bool (decide (smallS S)))∧s' = s):=by
 refine acalls_body Tryz.func26 rfl Tryz.ntmps26 Tryz.results26 (by simp) ?_
 have hat:=fun (i : Nat) (hi : i < S.tree.length)=>node_at hi
 obtain ⟨Z,hZ⟩ : ∃ Z : Bool,Z = decide (smallS S):=⟨_,rfl⟩
 rw [← hZ]
 obtain ⟨g,e,t,c,q⟩:=S
 have hS : Z = true↔(t.length≤31∧g.length≤40∧c.length≤60∧q.length≤60)∧∀ n ∈ t,smallN n:=by rw [hZ,decide_eq_true_iff]; exact Iff.rfl
 clear hZ
 unfold StV.cells
 simp only at hat ⊢
 unfold treeV bytesV
 generalize hX : rowC NodeV.cells t = X at *
 refine awp_reg_frz 1 (by decide) ?_
 intro K hK
 simp only [↓DM,pval,DX,Nz,↓DN,Qa,Qb,Qc,Qd,Qe,Qf,Qg,Qh,reduceCtorEq,↓reduceIte,Na,Nb,Nc,Nk,Nf,Ng,Nh,Za,Zb,Zc,TT]
 intro o ho
 refine hK _ _ o _ (by simp only [upd,Nc,↓reduceIte]) ho ?_
 clear hK K ho
 refine wK fun K hK=>?_
 rcases tt4 (decide ((31 : Int) < (t.length : Int))) (decide ((40 : Int) < (g.length : Int))) (decide ((60 : Int) < (c.length : Int))) (decide ((60 : Int) < (q.length : Int))) with hd | hd | hd | hd | hd
 case inr.inr.inr.inr =>
  have hB : t.length≤31∧g.length≤40∧c.length≤60∧q.length≤60:=by
   simp only [decide_eq_false_iff_not] at hd
   omega
  refine jB @hd ?_
  refine jF ?_
  refine awp_skip ?_
  refine hK _ _ ?_;clear hK K
  refine wK fun K hK=>?_
  refine jA ?_
  refine awp_block ?_
  refine awp_loop (fun E s2=>∃ i : Nat,i≤t.length∧(∀ b ∈ t.take i,smallN b)∧E 3 = .v (.int .i64 i)∧E 1 = .rop [.sl 1 g.length (g.map byteV) .any,.v (.int .i64 e),.sl 5 t.length X .any,.sl 1 c.length (c.map byteV) .any,.sl 1 q.length (q.map byteV) .any]∧s2 = s)
   (fun E _=>match E 3 with | .v (.int _ i)=>t.length - i.toNat | _=>0) ?_ ?_
  ·exact ⟨0,Nat.zero_le _,by simp,by simp only [upd,Nc,↓reduceIte]; rfl,by simp only [upd,Nc,↓reduceIte],rfl⟩
  ·rintro E1 s4 ⟨i,hi,hall,g3,g1,rfl⟩ -
   refine wK fun K2 hK2=>?_
   by_cases hi' : i < t.length
   ·refine jB (Ai @g3 (Ai @g1 (Ai @eye_lt_nat (decide_eq_true hi')))) ?_
    refine jE ?_
    refine awp_skip ?_
    refine hK2 _ _ ?_;clear hK2 K2
    refine wK fun K3 hK3=>?_
    refine awp_block ?_
    have hge : (0 : Int)≤(i : Int):=by omega
    have hat':=hat i hi'
    have htk:=List.take_succ_eq_append_getElem hi'
    have hmem:=List.getElem_mem hi'
    rw [nd_get hi'] at hat'
    generalize t[i] = N at *
    have hout : ¬ smallN N→Z = false:=fun q=>Bool.eq_false_iff.2 fun r=>q ((hS.1 r).2 N hmem)
    have hin : N.name.length≤40→N.parent.length≤60→N.unm.length≤40→smallN N:=fun a b c=>⟨a,b,c⟩
    have hno : smallN N→N.name.length≤40∧N.parent.length≤60∧N.unm.length≤40:=fun h=>h
    obtain ⟨nk,nm,ny,npa,nu⟩:=N
    unfold NodeV.cells at hat'
    unfold bytesV intsV at hat'
    simp only at hin hno
    rcases tt3 (decide ((40 : Int) < (nm.length : Int))) (decide ((60 : Int) < (npa.length : Int))) (decide ((40 : Int) < (nu.length : Int))) with he | he | he | he
    case inr.inr.inr =>
     refine jB (Ai @g3 (Ai @g1 (Ai @hge (Ai @eye_lt_nat (Ai @hi' (Ai @hat' @he)))))) ?_
     refine jF ?_
     refine awp_skip ?_
     simp only [blockQ,thenQ,if_true,if_false]
     refine hK3 _ _ ?_;clear hK3 K3
     refine jD (Ai @g3 (eye_succM i (by omega))) ?_
     refine ⟨⟨i + 1,by omega,?_,by simp only [upd,Nc,↓reduceIte],by simp only [upd,g1,Nc,↓reduceIte],rfl⟩,?_⟩
     ·rw [htk]
      intro x hx
      rw [List.mem_append,List.mem_singleton] at hx
      simp only [decide_eq_false_iff_not] at he
      rcases hx with hx | rfl
      ·exact hall x hx
      ·exact hin (by omega) (by omega) (by omega)
     ·simp only [g3,upd,↓reduceIte]
      omega
    all_goals
     refine jB (Ai @g3 (Ai @g1 (Ai @hge (Ai @eye_lt_nat (Ai @hi' (Ai @hat' @he)))))) ?_
     refine jE ?_
     refine jA ?_
     refine jI ?_
     rw [hout fun h=>by
      have:=hno h
      simp only [decide_eq_true_eq,decide_eq_false_iff_not] at he
      omega]
     exact ⟨_,_,AV.weak.refl _,AS.le.refl _,rfl,rfl⟩
   ·refine jB (Ai @g3 (Ai @g1 (Ai @eye_lt_nat (decide_eq_false hi')))) ?_
    refine jF ?_
    refine awp_exit ?_
    simp only [thenQ,blockQ,if_true]
    refine hK _ _ ?_;clear hK hK2 K2 K
    rw [List.take_of_length_le (by omega)] at hall
    refine jA ?_
    refine jI ?_
    rw [hS.2 ⟨hB,hall⟩]
    exact ⟨_,_,AV.weak.refl _,AS.le.refl _,rfl,rfl⟩
 all_goals
  refine jB @hd ?_
  refine jE ?_
  refine jA ?_
  refine jI ?_
  rw [show Z = false from Bool.eq_false_iff.2 fun h=>by
   have:=(hS.1 h).1
   simp only [decide_eq_true_eq,decide_eq_false_iff_not] at hd
   omega]
  exact ⟨_,_,AV.weak.refl _,AS.le.refl _,rfl,rfl⟩
theorem smallS_W {S : StV} (h : smallS S) (hk : ∀ n ∈ S.tree,n.key < 2 ^ 64) : S.wf:=by
 have h1:=h.1.1
 refine ⟨by omega,fun n hn=>⟨?_,hk n hn⟩⟩
 have:=(h.2 n hn).2.2
 omega
end Go.Proofs.YtfjlmkifiihgkaaGreatDoor
