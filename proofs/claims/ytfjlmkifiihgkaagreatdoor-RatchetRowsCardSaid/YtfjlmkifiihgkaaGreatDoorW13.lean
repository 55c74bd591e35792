/- Contracts of the program's functions, each walked once; the conditions stand in each theorem. -/
import Derived.Test.YtfjlmkifiihgkaaGreatDoorAMp6
import Derived.Test.YtfjlmkifiihgkaaGreatDoorW1
import Derived.Test.YtfjlmkifiihgkaaGreatDoorW12
import Derived.Test.YtfjlmkifiihgkaaGreatDoorW4
import Derived.Test.YtfjlmkifiihgkaaGreatDoorW2
import Derived.Test.YtfjlmkifiihgkaaGreatDoorAMp5
import Derived.Test.YtfjlmkifiihgkaaGreatDoorW5
import Derived.Test.YtfjlmkifiihgkaaGreatDoorW10
import Derived.Test.YtfjlmkifiihgkaaGreatDoorW6
import Derived.Test.YtfjlmkifiihgkaaGreatDoorW7
import Derived.Test.YtfjlmkifiihgkaaGreatDoorW9
import Derived.Test.YtfjlmkifiihgkaaGreatDoorW8
import Derived.Test.YtfjlmkifiihgkaaGreatDoorAMp4
import Derived.Test.YtfjlmkifiihgkaaGreatDoorW11
import Derived.Test.YtfjlmkifiihgkaaGreatDoorW3
import Derived.Test.YtfjlmkifiihgkaaGreatDoorRows
import Derived.ProofKit
import Derived.LaidMore
import Derived.MakeChecks
import Derived.OpenShut
set_option linter.unusedSimpArgs false
set_option linter.unusedVariables false
open Nat renaming reduceLT → Na, reduceLeDiff → Nb, reduceEqDiff → Nc, reduceAdd → Nk, reduceMul → Nf, reducePow → Ng, reduceSub → Nh, reduceBEq → Nz
open Int renaming reduceLT → Za, reduceLE → Zb, reduceToNat → Zc
open And renaming intro → Ai
open Go.AM renaming ashift → Qa, aconv → Qb, aindexAddr → Qc, aindex → Qd, aslice → Qe, abuiltin → Qf, awp_reg_seq → wS, awp_reg_end → wE, awp_seq_k → wK, awp_cond_k → wC
open Go.AM.AV renaming cells → Qg, one → Qh
set_option maxRecDepth 100000
set_option maxHeartbeats 8000000
set_option autoImplicit false
namespace Go.Proofs.YtfjlmkifiihgkaaGreatDoor
open Go Go.AM Go.Proofs
variable {Γ : Nat→List AV}
theorem namedR_ge {t : List NodeV} {name : List UInt8} (h1 : rightT t) (h : 0≤namedI t name 0) : 0≤namedR t name:=by
 have h2:=(firstN_ge (fun j=>decide (memI t j∧(nd t (2 * j)).name = name)) (hlf t - 0) 0).1 (decide_eq_true h)
 obtain ⟨j,_,hj,hp⟩:=h2
 obtain ⟨a,b⟩:=of_decide_eq_true hp
 rcases namedR_spec (t:=t) name with ⟨k,_,_,_,h4,_⟩ | ⟨_,h5⟩
 ·omega
 ·exact absurd ⟨(memR_iff h1.1 _).2 a,b⟩ (h5 j (by omega))
theorem refAdd20_calls (t : List NodeV) (ht : TreeW t) (name : List UInt8) (key : Nat) (hn : name.length≤2 ^ 45) (s : AS) :
  ACalls Tryz.prog Γ 61 [treeV t,.v (.string ⟨name.toArray⟩),.v (.int .u64 key)] s (fun r s'=>r = .tup [treeN (addR t name key).1,.v (.int .i64 (addR t name key).2.1),.v (.int .i64 (addR t name key).2.2)]∧s.le s'):=by
 have hc:=fun s=>refLeafOf20_calls (Γ:=Γ) name key hn s
 have hr:=fun s=>refRight20_calls (Γ:=Γ) t ht s
 have hlr:=fun s=>refRight19_calls (Γ:=Γ) (leafN name key) (by simp [leafN]) s
 have hnm:=fun s=>refNamed_calls (Γ:=Γ) t ht.1 name s
 have hcells : (leafN name key).cells = [.v (.int .i64 1),bytesV name .any,.v (.int .u64 key),bytesV [] .any,intsV [] .any]:=rfl
 rw [hcells] at hc hlr
 by_cases h1 : rightT t
 ·rw [decide_eq_true h1] at hr
  by_cases h2 : (leafN name key).right
  ·by_cases h3 : 0≤namedI t name 0
   ·have hres : addR t name key = ([],0,31):=by unfold addR; rw [if_neg (fun h=>h h1),if_neg (fun h=>h h2),if_pos h3]
    rw [hres]
    have hnr:=namedR_ge h1 h3
    generalize namedR t name = nr at *
    rw [decide_eq_true h2] at hlr
    refine acalls_body Tryz.func61 rfl Tryz.ntmps61 Tryz.results61 (by simp) ?_
    unfold bytesV intsV at *
    unfold treeV at *
    generalize rowC NodeV.cells t = X at *
    refine jA ?_
    refine wK fun K hK=>?_
    refine jK (hr _) ?_;rintro s1 rfl
    refine jF ?_
    refine awp_skip ?_
    refine hK _ _ ?_;clear hK K
    refine awp_reg_frz 9 (by decide) ?_
    intro K hK
    simp only [↓DM,pval,DX,Nz,↓DN,Qa,Qb,Qc,Qd,Qe,Qf,Qg,Qh,reduceCtorEq,↓reduceIte,Na,Nb,Nc,Nk,Nf,Ng,Nh,Za,Zb,Zc,TT]
    refine acallk (hc _) ?_
    rintro r s2 ⟨rfl,rfl⟩
    simp only [↓DM,pval,DX,Nz,↓DN,Qa,Qb,Qc,Qd,Qe,Qf,Qg,Qh,reduceCtorEq,↓reduceIte,Na,Nb,Nc,Nk,Nf,Ng,Nh,Za,Zb,Zc,TT]
    intro o ho
    refine hK _ _ o _ (by simp only [upd,Nc,↓reduceIte]) ho ?_
    clear hK K ho
    refine wK fun K hK=>?_
    refine jK (hlr _) ?_;rintro s3 rfl
    refine jF ?_
    refine awp_skip ?_
    refine hK _ _ ?_;clear hK K
    refine wK fun K hK=>?_
    refine jQ fun K hK=>?_
    refine acallk (hnm _) ?_
    rintro r s4 ⟨rfl,rfl⟩
    refine jV (decide_eq_true hnr) hK ?_;clear hK K
    refine jE ?_
    refine jA ?_
    refine jI ?_
    exact ⟨_,_,AV.weak.refl _,AS.le.refl _,rfl,AS.le.refl _⟩
   ·exact refAddMain_calls t ht name key hn h1 h2 h3 s
  ·have hres : addR t name key = ([],0,2):=by unfold addR; rw [if_neg (fun h=>h h1),if_pos h2]
   rw [hres]
   rw [decide_eq_false h2] at hlr
   refine acalls_body Tryz.func61 rfl Tryz.ntmps61 Tryz.results61 (by simp) ?_
   unfold bytesV intsV at *
   unfold treeV at *
   generalize rowC NodeV.cells t = X at *
   refine jA ?_
   refine wK fun K hK=>?_
   refine jK (hr _) ?_;rintro s1 rfl
   refine jF ?_
   refine awp_skip ?_
   refine hK _ _ ?_;clear hK K
   refine awp_reg_frz 9 (by decide) ?_
   intro K hK
   simp only [↓DM,pval,DX,Nz,↓DN,Qa,Qb,Qc,Qd,Qe,Qf,Qg,Qh,reduceCtorEq,↓reduceIte,Na,Nb,Nc,Nk,Nf,Ng,Nh,Za,Zb,Zc,TT]
   refine acallk (hc _) ?_
   rintro r s2 ⟨rfl,rfl⟩
   simp only [↓DM,pval,DX,Nz,↓DN,Qa,Qb,Qc,Qd,Qe,Qf,Qg,Qh,reduceCtorEq,↓reduceIte,Na,Nb,Nc,Nk,Nf,Ng,Nh,Za,Zb,Zc,TT]
   intro o ho
   refine hK _ _ o _ (by simp only [upd,Nc,↓reduceIte]) ho ?_
   clear hK K ho
   refine wK fun K hK=>?_
   refine jK (hlr _) ?_;rintro s3 rfl
   refine jE ?_
   refine jA ?_
   refine jI ?_
   exact ⟨_,_,AV.weak.refl _,AS.le.refl _,rfl,AS.le.refl _⟩
 ·have hres : addR t name key = ([],0,40):=if_pos h1
  rw [hres]
  rw [decide_eq_false h1] at hr
  refine acalls_body Tryz.func61 rfl Tryz.ntmps61 Tryz.results61 (by simp) ?_
  unfold treeV at *
  generalize rowC NodeV.cells t = X at *
  refine jA ?_
  refine wK fun K hK=>?_
  refine jK (hr _) ?_;rintro s1 rfl
  refine jE ?_
  refine jA ?_
  refine jI ?_
  exact ⟨_,_,AV.weak.refl _,AS.le.refl _,rfl,AS.le.refl _⟩
end Go.Proofs.YtfjlmkifiihgkaaGreatDoor
namespace Go.Proofs.YtfjlmkifiihgkaaGreatDoor
open Go Go.AM Go.Proofs
variable {Γ : Nat→List AV}
def ex1 : List NodeV:=[leafN [97] 9]
def ex2 : List NodeV:=(addR ex1 [98] 9).1
def ex3 : List NodeV:=(addR ex2 [99] 9).1
def ex4 : List NodeV:=(remR ex3 2).1
instance (t : List NodeV) : Decidable (TreeW t):=by unfold TreeW; infer_instance
theorem ex1_ok : (leafN [97] 9).right∧TreeW ex1:=by decide +kernel
theorem ex2_ok : (addR ex1 [98] 9).2 = (1,0)∧ex2.length = 3∧TreeW ex2:=by decide +kernel
theorem ex3_ok : (addR ex2 [99] 9).2 = (2,0)∧ex3.length = 7∧TreeW ex3∧(if rightT ex3 then lvs ex3 else 0) = 4:=by decide +kernel
theorem ex4_ok : (remR ex3 2).2 = 0∧ex4.length = 3∧TreeW ex4∧(if rightT ex4 then lvs ex4 else 0) = 2:=by decide +kernel
theorem awake20_calls (hG : Γ 3 = dB64.map u8C) (s : AS) : ACalls Tryz.prog Γ 10 [] s (fun r s'=>r = .v (.bool true)∧s' = s):=by
 refine acalls_body Tryz.func10 rfl Tryz.ntmps10 Tryz.results10 (by simp) ?_
 have h1:=fun s=>new20_calls (Γ:=Γ) [97] 9 (by decide) s
 have h2:=fun s=>ACalls.tidy (add20_calls (Γ:=Γ) hG ex1 ex1_ok.2 [98] 9 (by decide) s)
 have h3:=fun s=>ACalls.tidy (add20_calls (Γ:=Γ) hG ex2 ex2_ok.2.2 [99] 9 (by decide) s)
 have h4:=fun s=>ACalls.tidy (remove20_calls (Γ:=Γ) hG ex3 ex3_ok.2.2.1 2 s)
 have h5:=fun s=>leaves20_calls (Γ:=Γ) hG ex3 ex3_ok.2.2.1 s
 have h6:=fun s=>leaves20_calls (Γ:=Γ) hG ex4 ex4_ok.2.2.1 s
 rw [ex3_ok.2.2.2] at h5
 rw [ex4_ok.2.2.2] at h6
 have e1 : treeV [leafN [97] 9] = treeV ex1:=rfl
 rw [if_pos ex1_ok.1,e1] at h1
 have e2 : treeN (addR ex1 [98] 9).1 = treeV ex2:=treeN_ne (by rw [show (addR ex1 [98] 9).1 = ex2 from rfl,ex2_ok.2.1]; decide)
 have e3 : treeN (addR ex2 [99] 9).1 = treeV ex3:=treeN_ne (by rw [show (addR ex2 [99] 9).1 = ex3 from rfl,ex3_ok.2.1]; decide)
 have e4 : treeN (remR ex3 2).1 = treeV ex4:=treeN_ne (by rw [show (remR ex3 2).1 = ex4 from rfl,ex4_ok.2.1]; decide)
 rw [e2,ex2_ok.1] at h2
 rw [e3,ex3_ok.1] at h3
 rw [e4,ex4_ok.1] at h4
 generalize treeV ex1 = t1 at *
 generalize treeV ex2 = t2 at *
 generalize treeV ex3 = t3 at *
 generalize treeV ex4 = t4 at *
 unfold bytesV at *
 refine jA ?_
 refine jS (show List.replicate 1 (AV.v (.int .u8 0)) = [AV.v (.int .u8 0)] from rfl) fun K hK=>?_
 refine acallk (ACalls.weaks (.cons AV.weak_any (.cons (AV.weak.refl _) .nil)) (h1 _)) ?_
 rintro r s1 ⟨rfl,rfl⟩
 refine jR hK ?_;clear hK K
 refine jS (show List.replicate 1 (AV.v (.int .u8 0)) = [AV.v (.int .u8 0)] from rfl) fun K hK=>?_
 refine acallk (ACalls.weaks (.cons (AV.weak.refl _) (.cons AV.weak_any (.cons (AV.weak.refl _) .nil))) (h2 _)) ?_
 rintro r s2 ⟨rfl,rfl⟩
 refine jR hK ?_;clear hK K
 refine jS (show List.replicate 1 (AV.v (.int .u8 0)) = [AV.v (.int .u8 0)] from rfl) fun K hK=>?_
 refine acallk (ACalls.weaks (.cons (AV.weak.refl _) (.cons AV.weak_any (.cons (AV.weak.refl _) .nil))) (h3 _)) ?_
 rintro r s3 ⟨rfl,rfl⟩
 refine jR hK ?_;clear hK K
 refine jK (h4 _) ?_;rintro s4 rfl
 refine jS (Ai (show ((0 : Int) == 0) = true from rfl) (Ai (show ((2 : Int) == 2) = true from rfl) (Ai (show (((2 : Nat) : Int) == 2) = true from rfl) (show (((0 : Nat) : Int) == 0) = true from rfl)))) fun K hK=>?_
 refine acallk (h5 _) ?_
 rintro r s5 ⟨rfl,rfl⟩
 simp only [↓DM,pval,DX,Nz,↓DN,Qa,Qb,Qc,Qd,Qe,Qf,Qg,Qh,reduceCtorEq,↓reduceIte,Na,Nb,Nc,Nk,Nf,Ng,Nh,Za,Zb,Zc,TT,show (((4 : Nat) : Int) == 4) = true from rfl]
 refine acallk (h6 _) ?_
 rintro r s6 ⟨rfl,rfl⟩
 refine jV (show (((2 : Nat) : Int) == 2) = true from rfl) hK ?_;clear hK K
 exact jJ
def smallN (n : NodeV) : Prop:=n.name.length≤40∧n.parent.length≤60∧n.unm.length≤40
def smallT (t : List NodeV) : Prop:=t.length≤63∧∀ n ∈ t,smallN n
instance (n : NodeV) : Decidable (smallN n):=by unfold smallN; infer_instance
instance (t : List NodeV) : Decidable (smallT t):=by unfold smallT; infer_instance
theorem small20_calls (t : List NodeV) (s : AS) : ACalls Tryz.prog Γ 16 [treeV t] s (fun r s'=>r = .v (.bool (decide (smallT t)))∧s' = s):=by
 refine acalls_body Tryz.func16 rfl Tryz.ntmps16 Tryz.results16 (by simp) ?_
 have hat:=fun (i : Nat) (hi : i < t.length)=>node_at hi
 unfold treeV
 generalize hX : rowC NodeV.cells t = X at *
 refine jA ?_
 refine wK fun K hK=>?_
 by_cases h12 : t.length≤63
 ·refine jB (decide_eq_false (show ¬ (63 : Int) < (t.length : Int) by omega)) ?_
  refine jF ?_
  refine awp_skip ?_
  refine hK _ _ ?_;clear hK K
  refine wK fun K hK=>?_
  refine jA ?_
  refine awp_block ?_
  refine awp_loop (fun E s2=>∃ i : Nat,i≤t.length∧(∀ b ∈ t.take i,smallN b)∧E 3 = .v (.int .i64 i)∧E 0 = .sl 5 t.length X .any∧s2 = s)
   (fun E _=>match E 3 with | .v (.int _ i)=>t.length - i.toNat | _=>0) ?_ ?_
  ·exact ⟨0,Nat.zero_le _,by simp,by simp only [upd,Nc,↓reduceIte]; rfl,by simp only [upd,initE,List.getD_cons_zero,List.getD_cons_succ,Nc,↓reduceIte],rfl⟩
  ·rintro E1 s4 ⟨i,hi,hall,g3,g0,rfl⟩ -
   refine wK fun K2 hK2=>?_
   by_cases hi' : i < t.length
   ·refine jB (Ai @g3 (Ai @g0 (Ai @eye_lt_nat (decide_eq_true hi')))) ?_
    refine jE ?_
    refine awp_skip ?_
    refine hK2 _ _ ?_;clear hK2 K2
    refine wK fun K3 hK3=>?_
    refine awp_block ?_
    have hge : (0 : Int)≤(i : Int):=by omega
    have hat':=hat i hi'
    have htk:=List.take_succ_eq_append_getElem hi'
    have hmem:=List.getElem_mem hi'
    rw [nd_get hi'] at hat'
    generalize t[i] = N at *
    have hout : ∀ (q : ¬ smallN N),¬ smallT t:=fun q r=>q (r.2 N hmem)
    obtain ⟨nk,nm,ny,npa,nu⟩:=N
    unfold NodeV.cells at hat'
    unfold bytesV intsV at hat'
    by_cases b1 : nm.length≤40
    ·by_cases b2 : npa.length≤60
     ·by_cases b3 : nu.length≤40
      ·refine jB (Ai @g3 (Ai @g0 (Ai @hge (Ai @eye_lt_nat (Ai @hi' (Ai @hat' (Ai (decide_eq_false (show ¬ (40 : Int) < (nm.length : Int) by omega)) (Ai (decide_eq_false (show ¬ (60 : Int) < (npa.length : Int) by omega)) (decide_eq_false (show ¬ (40 : Int) < (nu.length : Int) by omega)))))))))) ?_
       refine jF ?_
       refine awp_skip ?_
       simp only [blockQ,thenQ,if_true,if_false]
       refine hK3 _ _ ?_;clear hK3 K3
       refine jD (Ai @g3 (eye_succM i (by omega))) ?_
       refine ⟨⟨i + 1,by omega,?_,by simp only [upd,Nc,↓reduceIte],by simp only [upd,g0,Nc,↓reduceIte],rfl⟩,?_⟩
       ·rw [htk]
        intro x hx
        rw [List.mem_append,List.mem_singleton] at hx
        rcases hx with hx | rfl
        ·exact hall x hx
        ·exact ⟨b1,b2,b3⟩
       ·simp only [g3,upd,↓reduceIte]
        omega
      ·refine jB (Ai @g3 (Ai @g0 (Ai @hge (Ai @eye_lt_nat (Ai @hi' (Ai @hat' (Ai (decide_eq_false (show ¬ (40 : Int) < (nm.length : Int) by omega)) (Ai (decide_eq_false (show ¬ (60 : Int) < (npa.length : Int) by omega)) (decide_eq_true (show (40 : Int) < (nu.length : Int) by omega)))))))))) ?_
       refine jE ?_
       refine jA ?_
       refine jI ?_
       rw [decide_eq_false (hout fun q=>b3 q.2.2)]
       exact ⟨_,_,AV.weak.refl _,AS.le.refl _,rfl,rfl⟩
     ·refine jB (Ai @g3 (Ai @g0 (Ai @hge (Ai @eye_lt_nat (Ai @hi' (Ai @hat' (Ai (decide_eq_false (show ¬ (40 : Int) < (nm.length : Int) by omega)) (decide_eq_true (show (60 : Int) < (npa.length : Int) by omega))))))))) ?_
      refine jE ?_
      refine jA ?_
      refine jI ?_
      rw [decide_eq_false (hout fun q=>b2 q.2.1)]
      exact ⟨_,_,AV.weak.refl _,AS.le.refl _,rfl,rfl⟩
    ·refine jB (Ai @g3 (Ai @g0 (Ai @hge (Ai @eye_lt_nat (Ai @hi' (Ai @hat' (decide_eq_true (show (40 : Int) < (nm.length : Int) by omega)))))))) ?_
     refine jE ?_
     refine jA ?_
     refine jI ?_
     rw [decide_eq_false (hout fun q=>b1 q.1)]
     exact ⟨_,_,AV.weak.refl _,AS.le.refl _,rfl,rfl⟩
   ·refine jB (Ai @g3 (Ai @g0 (Ai @eye_lt_nat (decide_eq_false hi')))) ?_
    refine jF ?_
    refine awp_exit ?_
    simp only [thenQ,blockQ,if_true]
    refine hK _ _ ?_;clear hK hK2 K2 K
    obtain rfl : i = t.length:=by omega
    rw [List.take_length] at hall
    refine jA ?_
    refine jI ?_
    rw [decide_eq_true (show smallT t from ⟨h12,hall⟩)]
    exact ⟨_,_,AV.weak.refl _,AS.le.refl _,rfl,rfl⟩
 ·refine jB (decide_eq_true (show (63 : Int) < (t.length : Int) by omega)) ?_
  refine jE ?_
  refine jA ?_
  refine jI ?_
  rw [decide_eq_false (fun q : smallT t=>h12 q.1)]
  exact ⟨_,_,AV.weak.refl _,AS.le.refl _,rfl,rfl⟩
end Go.Proofs.YtfjlmkifiihgkaaGreatDoor
namespace Go.Proofs.YtfjlmkifiihgkaaGreatDoor
open Go Go.AM Go.Proofs
variable {Γ : Nat→List AV}
theorem smallW {t : List NodeV} (h : smallT t) (hk : ∀ n ∈ t,n.key < 2 ^ 64) : TreeW t:=by
  refine ⟨by have:=h.1; omega,fun n hn=>⟨by have:=(h.2 n hn).2.2; omega,hk n hn⟩⟩
theorem sameN_calls (a b : List NodeV) (ha : TreeW a) (s : AS) : ACalls Tryz.prog Γ 13 [treeN a,treeN b] s (fun r s'=>r = .v (.bool (decide (a = b)))∧s' = s):=by
  have hw : ∀ t,(treeN t).weak (treeV t):=by
    intro t
    unfold treeN
    split
    · rename_i h
      rw [h]
      exact AV.weak_nil
    · exact AV.weak.refl _
  exact ACalls.weaks (.cons (hw a) (.cons (hw b) .nil)) (same20_calls a b ha s)
end Go.Proofs.YtfjlmkifiihgkaaGreatDoor
namespace Go.Proofs.YtfjlmkifiihgkaaGreatDoor
open Go Go.AM Go.Proofs
variable {Γ : Nat→List AV}
theorem clone20V_calls (t : List NodeV) (ht : t.length≤2 ^ 30) (hw : ∀ n ∈ t,NodeW n) (s : AS) : ACalls Tryz.prog Γ 69 [treeV t] s (fun r s'=>r = treeV t∧s' = s):=by
  refine ACalls.settle (clone20_calls t ht hw s) ?_
  rintro r s1 ⟨TS,hT,hO⟩
  obtain ⟨s2,k1,k2⟩:=hO.settle (Γ:=Γ)
  rw [hT] at k1
  exact ⟨s,_,k1.trans (Settles.le _ k2),rfl,rfl⟩
end Go.Proofs.YtfjlmkifiihgkaaGreatDoor
namespace Go.Proofs.YtfjlmkifiihgkaaGreatDoor
open Go Go.AM Go.Proofs
variable {Γ : Nat→List AV}
theorem boolN : (false != false) = false∧(true != true) = false:=⟨rfl,rfl⟩
theorem tells20_calls (hG0 : Γ 0 = stC Sha.H0) (hG1 : Γ 1 = Sha.K.map wV) (hG : Γ 3 = dB64.map u8C) (t : List NodeV) (ht : TreeW t) (hl : t.length≤2 ^ 30) (hw : ∀ n ∈ t,NodeW n) (s : AS) :
  ACalls Tryz.prog Γ 15 [treeV t] s (fun r s'=>r = .v (.bool true)∧s' = s):=by
 have h1:=fun s=>refRight20_calls (Γ:=Γ) t ht s
 have h2:=fun s=>refLeaves_calls (Γ:=Γ) t ht.1 s
 have h3:=fun s=>right20_calls (Γ:=Γ) hG t ht s
 have h4:=fun s=>leaves20_calls (Γ:=Γ) hG t ht s
 have h5:=fun s=>members20_calls (Γ:=Γ) hG t ht s
 have h6:=fun s=>refMembers_calls (Γ:=Γ) t ht s
 have h7:=fun s=>alike_calls (Γ:=Γ) (membersT t) (membersT t) (by have:=lvs_le t; have:=memL_len t (lvs t); unfold membersT; split <;> simp <;> omega) s
 have h8:=fun s=>clone20V_calls (Γ:=Γ) t hl hw s
 have h9:=fun s=>same20_calls (Γ:=Γ) t t ht s
 have h10:=fun s=>root20_calls (Γ:=Γ) hG0 hG1 hG t ht s
 rw [decide_eq_true rfl] at h7 h9
 have hll : (((lvs t : Nat) : Int) != ((lvs t : Nat) : Int)) = false:=by simp
 refine acalls_body Tryz.func15 rfl Tryz.ntmps15 Tryz.results15 (by simp) ?_
 by_cases hr : rightT t
 ·have h11:=fun s=>refRoot20_calls (Γ:=Γ) t ht hr s
  have hrr : (RootT t == RootT t) = true:=by simp
  rw [decide_eq_true hr] at h1 h3
  rw [if_pos hr] at h4
  generalize RootT t = R at *
  generalize membersT t = M at *
  unfold treeV listV bytesV at *
  generalize rowC NodeV.cells t = X at *
  generalize rowC ListedV.cells M = MX at *
  refine jA ?_
  refine jK (h1 _) ?_;rintro s1 rfl
  refine jA ?_
  refine wK fun K hK=>?_
  refine jA ?_
  refine jE ?_
  refine jL (h2 _) ?_;rintro s2 rfl
  refine hK _ _ ?_;clear hK K
  refine wK fun K hK=>?_
  refine jQ fun K hK=>?_
  refine acallk (h3 _) ?_
  rintro r s3 ⟨rfl,rfl⟩
  simp only [↓DM,pval,DX,Nz,↓DN,Qa,Qb,Qc,Qd,Qe,Qf,Qg,Qh,reduceCtorEq,↓reduceIte,Na,Nb,Nc,Nk,Nf,Ng,Nh,Za,Zb,Zc,TT,boolN]
  refine acallk (h4 _) ?_
  rintro r s4 ⟨rfl,rfl⟩
  simp only [↓DM,pval,DX,Nz,↓DN,Qa,Qb,Qc,Qd,Qe,Qf,Qg,Qh,reduceCtorEq,↓reduceIte,Na,Nb,Nc,Nk,Nf,Ng,Nh,Za,Zb,Zc,TT,hll]
  refine acallk (h5 _) ?_
  rintro r s5 ⟨rfl,rfl⟩
  simp only [↓DM,pval,DX,Nz,↓DN,Qa,Qb,Qc,Qd,Qe,Qf,Qg,Qh,reduceCtorEq,↓reduceIte,Na,Nb,Nc,Nk,Nf,Ng,Nh,Za,Zb,Zc,TT]
  refine acallk (h6 _) ?_
  rintro r s6 ⟨rfl,rfl⟩
  simp only [↓DM,pval,DX,Nz,↓DN,Qa,Qb,Qc,Qd,Qe,Qf,Qg,Qh,reduceCtorEq,↓reduceIte,Na,Nb,Nc,Nk,Nf,Ng,Nh,Za,Zb,Zc,TT]
  refine acallk (h7 _) ?_
  rintro r s7 ⟨rfl,rfl⟩
  simp only [↓DM,pval,DX,Nz,↓DN,Qa,Qb,Qc,Qd,Qe,Qf,Qg,Qh,reduceCtorEq,↓reduceIte,Na,Nb,Nc,Nk,Nf,Ng,Nh,Za,Zb,Zc,TT]
  refine acallk (h8 _) ?_
  rintro r s8 ⟨rfl,rfl⟩
  simp only [↓DM,pval,DX,Nz,↓DN,Qa,Qb,Qc,Qd,Qe,Qf,Qg,Qh,reduceCtorEq,↓reduceIte,Na,Nb,Nc,Nk,Nf,Ng,Nh,Za,Zb,Zc,TT]
  refine acallk (h9 _) ?_
  rintro r s9 ⟨rfl,rfl⟩
  refine jR hK ?_;clear hK K
  refine jF ?_
  refine awp_skip ?_
  refine hK _ _ ?_;clear hK K
  refine jK (h10 _) ?_;rintro s10 rfl
  refine awp_drw_seq T.mixed [5] (by kernel_rfl) ?_
  intro K hK
  simp only [↓DM,pval,DX,Nz,↓DN,Qa,Qb,Qc,Qd,Qe,Qf,Qg,Qh,reduceCtorEq,↓reduceIte,Na,Nb,Nc,Nk,Nf,Ng,Nh,Za,Zb,Zc,TT]
  refine acallk (h11 _) ?_
  rintro r s11 ⟨rfl,rfl⟩
  simp only [↓DM,pval,DX,Nz,↓DN,Qa,Qb,Qc,Qd,Qe,Qf,Qg,Qh,reduceCtorEq,↓reduceIte,Na,Nb,Nc,Nk,Nf,Ng,Nh,Za,Zb,Zc,TT,hrr,List.toList_toArray]
  refine hK _ _ ?_;clear hK K
  exact jJ
 ·have hm : membersT t = []:=if_neg hr
  have hR : RootT t = []:=by unfold RootT HashT; first | (rw [if_neg]; exact fun h=>hr h.1) | (rw [if_pos]; exact hr) | (simp [hr])
  have hz : ((0 : Int) != 0) = false:=rfl
  rw [hm] at h5 h6 h7
  rw [hR] at h10
  rw [decide_eq_false hr] at h1 h3
  rw [if_neg hr] at h4
  unfold treeV listV bytesV at *
  generalize rowC NodeV.cells t = X at *
  generalize rowC ListedV.cells [] = MX at *
  refine jA ?_
  refine jK (h1 _) ?_;rintro s1 rfl
  refine jA ?_
  refine wK fun K hK=>?_
  refine jA ?_
  refine jF ?_
  refine awp_skip ?_
  refine hK _ _ ?_;clear hK K
  refine wK fun K hK=>?_
  refine jQ fun K hK=>?_
  refine acallk (h3 _) ?_
  rintro r s3 ⟨rfl,rfl⟩
  simp only [↓DM,pval,DX,Nz,↓DN,Qa,Qb,Qc,Qd,Qe,Qf,Qg,Qh,reduceCtorEq,↓reduceIte,Na,Nb,Nc,Nk,Nf,Ng,Nh,Za,Zb,Zc,TT,boolN]
  refine acallk (h4 _) ?_
  rintro r s4 ⟨rfl,rfl⟩
  simp only [↓DM,pval,DX,Nz,↓DN,Qa,Qb,Qc,Qd,Qe,Qf,Qg,Qh,reduceCtorEq,↓reduceIte,Na,Nb,Nc,Nk,Nf,Ng,Nh,Za,Zb,Zc,TT,show ((((0 : Nat) : Int)) != 0) = false from rfl]
  refine acallk (h5 _) ?_
  rintro r s5 ⟨rfl,rfl⟩
  simp only [↓DM,pval,DX,Nz,↓DN,Qa,Qb,Qc,Qd,Qe,Qf,Qg,Qh,reduceCtorEq,↓reduceIte,Na,Nb,Nc,Nk,Nf,Ng,Nh,Za,Zb,Zc,TT]
  refine acallk (h6 _) ?_
  rintro r s6 ⟨rfl,rfl⟩
  simp only [↓DM,pval,DX,Nz,↓DN,Qa,Qb,Qc,Qd,Qe,Qf,Qg,Qh,reduceCtorEq,↓reduceIte,Na,Nb,Nc,Nk,Nf,Ng,Nh,Za,Zb,Zc,TT]
  refine acallk (h7 _) ?_
  rintro r s7 ⟨rfl,rfl⟩
  simp only [↓DM,pval,DX,Nz,↓DN,Qa,Qb,Qc,Qd,Qe,Qf,Qg,Qh,reduceCtorEq,↓reduceIte,Na,Nb,Nc,Nk,Nf,Ng,Nh,Za,Zb,Zc,TT]
  refine acallk (h8 _) ?_
  rintro r s8 ⟨rfl,rfl⟩
  simp only [↓DM,pval,DX,Nz,↓DN,Qa,Qb,Qc,Qd,Qe,Qf,Qg,Qh,reduceCtorEq,↓reduceIte,Na,Nb,Nc,Nk,Nf,Ng,Nh,Za,Zb,Zc,TT]
  refine acallk (h9 _) ?_
  rintro r s9 ⟨rfl,rfl⟩
  refine jR hK ?_;clear hK K
  refine jF ?_
  refine awp_skip ?_
  refine hK _ _ ?_;clear hK K
  refine jK (h10 _) ?_;rintro s10 rfl
  refine awp_drw_seq T.mixed [5] (by kernel_rfl) ?_
  intro K hK
  refine jV (Ai (show (((([] : List UInt8).length : Nat) : Int) == 0) = true from rfl) (show ((((0 : Nat) : Int)) == 0) = true from rfl)) hK ?_;clear hK K
  exact jJ
end Go.Proofs.YtfjlmkifiihgkaaGreatDoor
namespace Go.AM
namespace Kdf
variable (secret info : List UInt8)
def blk : Nat→List UInt8
  | 0=>[]
  | i + 1=>Mac.tag secret (blk i ++ info ++ [UInt8.ofNat (i + 1)])
def row : Nat→List UInt8
  | 0=>[]
  | i + 1=>row i ++ blk secret info (i + 1)
theorem blk_len (i : Nat) : (blk secret info (i + 1)).length = 32:=Mac.tag_len _ _
theorem row_len : ∀ i : Nat,(row secret info i).length = 32 * i
  | 0=>rfl
  | i + 1=>by rw [row,List.length_append,row_len i,blk_len]; omega
def rounds (n : Nat) : Nat:=(n + 31) / 32
def expand (n : Nat) : List UInt8:=(row secret info (rounds n)).take n
def ok (n : Int) : Bool:=decide (0≤n) && decide (n≤8160)
def get (n : Int) : List UInt8:=if ok n = true then expand secret info n.toNat else []
end Kdf
end Go.AM
namespace Go.AM
namespace Kdf
def mls : List UInt8:=[109,108,115,32]
def fits (l c : List UInt8) (n : Int) : Bool:=decide (l.length≤251) && decide (c.length≤65535) && decide (0≤n) && decide (n≤8160)
def text (l c : List UInt8) (n : Nat) : List UInt8:=be 2 n ++ (be 1 (mls ++ l).length ++ (mls ++ l)) ++ (be 2 c.length ++ c)
def label (secret l c : List UInt8) (n : Int) : List UInt8:=if fits l c n = true then expand secret (text l c n.toNat) n.toNat else []
def derive (secret l : List UInt8) : List UInt8:=label secret (l.take 251) [] 32
def pen (l c : List UInt8) (n : Int) : List UInt8 × Bool:=penText 2 c (penText 1 (mls ++ l) (penSmall 2 n ([],false)))
theorem text_len (k : Nat) (m : List UInt8) (st : List UInt8 × Bool) : (penText k m st).1.length≤st.1.length + k + m.length:=by
  have:=penSmall_len k (m.length : Int) st
  unfold penText penRaw
  split
  · omega
  · simp only [List.length_append]
    omega
end Kdf
end Go.AM
namespace Go.AM
namespace Sch
def epochW : List UInt8:=[101,112,111,99,104]
def welcomeW : List UInt8:=[119,101,108,99,111,109,101]
def exporterW : List UInt8:=[101,120,112,111,114,116,101,114]
def confirmW : List UInt8:=[99,111,110,102,105,114,109]
def memberW : List UInt8:=[109,101,109,98,101,114,115,104,105,112]
def initW : List UInt8:=[105,110,105,116]
def main (j : List UInt8) : List UInt8:=Mac.tag j (List.replicate 32 0)
def epoch (j c : List UInt8) : List UInt8:=Kdf.label (main j) epochW c 32
def of (j c : List UInt8) : List (List UInt8):=[j,Kdf.derive (main j) welcomeW,Kdf.derive (epoch j c) exporterW,Kdf.derive (epoch j c) confirmW,Kdf.derive (epoch j c) memberW,Kdf.derive (epoch j c) initW]
end Sch
end Go.AM
namespace Go.AM
namespace Aes
def dbl (a : UInt8) : UInt8:=(a <<< (1 : UInt8)) ^^^ ((27 : UInt8) &&& ((0 : UInt8) - (a >>> (7 : UInt8))))
def gm : Nat→UInt8→UInt8→UInt8→UInt8
  | 0,o,_,_=>o
  | f + 1,o,a,b=>gm f (o ^^^ (a &&& ((0 : UInt8) - (b &&& 1)))) (dbl a) (b >>> 1)
def pw : Nat→UInt8→UInt8→Nat→UInt8
  | 0,o,_,_=>o
  | f + 1,o,a,n=>pw f (if n % 2 = 1 then gm 8 0 o a else o) (gm 8 0 a a) (n / 2)
def inv (a : UInt8) : UInt8:=pw 8 1 a 254
def rot (x : UInt8) (i : Nat) : UInt8:=UInt8.ofNat (x.toNat * 2 ^ i) ||| UInt8.ofNat (x.toNat / 2 ^ (8 - i))
def boxP (x : UInt8) : Nat→UInt8
  | 0=>99 ^^^ x
  | k + 1=>boxP x k ^^^ rot x (k + 1)
def box (c : UInt8) : UInt8:=boxP (inv c) 4
def sb : List UInt8:=[99,124,119,123,242,107,111,197,48,1,103,43,254,215,171,118,202,130,201,125,250,89,71,240,173,212,162,175,156,164,114,192,183,253,147,38,54,63,247,204,52,165,229,241,113,216,49,21,4,199,35,195,24,150,5,154,7,18,128,226,235,39,178,117,9,131,44,26,27,110,90,160,82,59,214,179,41,227,47,132,83,209,0,237,32,252,177,91,106,203,190,57,74,76,88,207,208,239,170,251,67,77,51,133,69,249,2,127,80,60,159,168,81,163,64,143,146,157,56,245,188,182,218,33,16,255,243,210,205,12,19,236,95,151,68,23,196,167,126,61,100,93,25,115,96,129,79,220,34,42,144,136,70,238,184,20,222,94,11,219,224,50,58,10,73,6,36,92,194,211,172,98,145,149,228,121,231,200,55,109,141,213,78,169,108,86,244,234,101,122,174,8,186,120,37,46,28,166,180,198,232,221,116,31,75,189,139,138,112,62,181,102,72,3,246,14,97,53,87,185,134,193,29,158,225,248,152,17,105,217,142,148,155,30,135,233,206,85,40,223,140,161,137,13,191,230,66,104,65,153,45,15,176,84,187,22]
def S (x : UInt8) : UInt8:=sb.getD x.toNat 0
def pwr : Nat→UInt8
  | 0=>1
  | r + 1=>dbl (pwr r)
def nx (k : List UInt8) (p : UInt8) : List UInt8 :=
  match k with
  | [k0,k1,k2,k3,k4,k5,k6,k7,k8,k9,k10,k11,k12,k13,k14,k15] =>
    let a0:=(k0 ^^^ S k13) ^^^ p
    let a1:=k1 ^^^ S k14
    let a2:=k2 ^^^ S k15
    let a3:=k3 ^^^ S k12
    let b0:=k4 ^^^ a0
    let b1:=k5 ^^^ a1
    let b2:=k6 ^^^ a2
    let b3:=k7 ^^^ a3
    let c0:=k8 ^^^ b0
    let c1:=k9 ^^^ b1
    let c2:=k10 ^^^ b2
    let c3:=k11 ^^^ b3
    [a0,a1,a2,a3,b0,b1,b2,b3,c0,c1,c2,c3,k12 ^^^ c0,k13 ^^^ c1,k14 ^^^ c2,k15 ^^^ c3]
  | _=>[]
def kr (key : List UInt8) : Nat→List UInt8
  | 0=>key
  | r + 1=>nx (kr key r) (pwr r)
def ak (key : List UInt8) (n : Nat) : UInt8:=(kr key (n / 16)).getD (n % 16) 0
def sh (b : List UInt8) (n : Nat) : UInt8:=S (b.getD (4 * ((n / 4 + n % 4) % 4) + n % 4) 0)
def mx (c : Nat→UInt8) (i : Nat) : UInt8:=(((dbl (c i) ^^^ dbl (c ((i + 1) % 4))) ^^^ c ((i + 1) % 4)) ^^^ c ((i + 2) % 4)) ^^^ c ((i + 3) % 4)
def rnd (b : List UInt8) (last : Bool) : List UInt8:=(List.range 16).map fun n=>if last then sh b n else mx (fun i=>sh b (4 * (n / 4) + i)) (n % 4)
def add (b k : List UInt8) : List UInt8:=(List.range 16).map fun n=>b.getD n 0 ^^^ k.getD n 0
def state (key b : List UInt8) : Nat→List UInt8
  | 0=>add b (kr key 0)
  | r + 1=>add (rnd (state key b r) (r + 1 == 10)) (kr key (r + 1))
def block (key b : List UInt8) : List UInt8:=state key b 10
def first (nonce : List UInt8) : Nat:=beNat (nonce.drop 12)
def ctr (nonce : List UInt8) (i : Nat) : List UInt8:=nonce.take 12 ++ be 4 ((first nonce + i) % 4294967296)
def maskB (key nonce : List UInt8) (p : Nat) : UInt8:=(block (key.take 16) (ctr nonce (p / 16))).getD (p % 16) 0
def mask (key nonce text : List UInt8) : List UInt8:=(List.range text.length).map fun p=>text.getD p 0 ^^^ maskB key nonce p
def tag (key nonce beside masked : List UInt8) : List UInt8:=(Mac.tag (key.drop 16) (be 4 beside.length ++ (beside ++ (nonce ++ masked)))).take 16
theorem tag_len (key nonce beside masked : List UInt8) : (tag key nonce beside masked).length = 16:=by simp [tag,Mac.tag_len]
end Aes
end Go.AM
namespace Go.AM
namespace Vault
def k0 : List UInt8:=[169,244,63,67,64,52,17,249,117,86,100,57,122,167,125,1,230,91,103,131,115,144,199,68,248,159,166,218,250,248,1,114,135,15,162,208,108,252,211,18,83,148,90,178,179,251,67,14]
def n3 : List UInt8:=[8,190,219,198,217,21,206,227,25,6,89,27,186,224,186,54]
def n4 : List UInt8:=[184,102,163,253,77,158,128,5,108,65,104,250,253,115,180,138]
def m3 : List UInt8:=[247,169,26,226,24,129,224,169,173,123,5,148,71,154,82,74,108,148,179,118,179,215,27,211,244,97,172,107,233,136,76,169]
def t3 : List UInt8:=[8,206,240,108,85,27,1,138,119,108,80,208,57,159,143,149]
end Vault
end Go.AM
namespace Go.AM
open Go
theorem IsTy.record {avs : List AV} (h : IsTy (.struct (.cons tyI (.cons tyB (.cons tyI (.cons tyI (.cons tyI (.cons tyB (.cons tyB (.cons tyB (.cons tyB .nil)))))))))) avs) : ∃ R : Rec,avs = R.cells:=by
  obtain ⟨x1,y1,rfl,t1,h⟩:=isF_cons (isTy_struct h)
  obtain ⟨x2,y2,rfl,t2,h⟩:=isF_cons h
  obtain ⟨x3,y3,rfl,t3,h⟩:=isF_cons h
  obtain ⟨x4,y4,rfl,t4,h⟩:=isF_cons h
  obtain ⟨x5,y5,rfl,t5,h⟩:=isF_cons h
  obtain ⟨x6,y6,rfl,t6,h⟩:=isF_cons h
  obtain ⟨x7,y7,rfl,t7,h⟩:=isF_cons h
  obtain ⟨x8,y8,rfl,t8,h⟩:=isF_cons h
  obtain ⟨x9,y9,rfl,t9,h⟩:=isF_cons h
  obtain rfl:=isF_nil h
  obtain ⟨n1,rfl,_⟩:=isTy_int t1
  obtain ⟨l2,rfl,_⟩:=t2.bytes
  obtain ⟨n3,rfl,_⟩:=isTy_int t3
  obtain ⟨n4,rfl,_⟩:=isTy_int t4
  obtain ⟨n5,rfl,_⟩:=isTy_int t5
  obtain ⟨l6,rfl,_⟩:=t6.bytes
  obtain ⟨l7,rfl,_⟩:=t7.bytes
  obtain ⟨l8,rfl,_⟩:=t8.bytes
  obtain ⟨l9,rfl,_⟩:=t9.bytes
  exact ⟨⟨n1,l2,n3,n4,n5,l6,l7,l8,l9⟩,rfl⟩
end Go.AM
namespace Go.AM
open Go
def smallX (l : List (List UInt8)) : Prop:=l.length≤12∧∀ b ∈ l,b.length≤4000
instance (l : List (List UInt8)) : Decidable (smallX l):=by unfold smallX; infer_instance
end Go.AM
namespace Go.AM
open Go
theorem IsTy.tree {avs : List AV} (h : IsTy (.slice 5 (.struct (.cons tyI (.cons tyB (.cons (.int .u64) (.cons tyB (.cons (.slice 1 tyI) .nil))))))) avs) : ∃ t : List NodeV,avs = [treeV t]∧∀ n ∈ t,n.key < 2 ^ 64:=by
  obtain ⟨els,rfl,_,hall⟩:=IsTy.rows h
  have key : ∀ els : List (List AV),(∀ el ∈ els,el.length = 5∧IsTy (.struct (.cons tyI (.cons tyB (.cons (.int .u64) (.cons tyB (.cons (.slice 1 tyI) .nil)))))) el)→∃ t : List NodeV,els = t.map NodeV.cells∧∀ n ∈ t,n.key < 2 ^ 64:=by
    intro els
    induction els with
    | nil=>intro _; exact ⟨[],rfl,fun n hn=>by cases hn⟩
    | cons e els ih =>
      intro h
      obtain ⟨t,rfl,h2⟩:=ih (fun el hel=>h el (by simp [hel]))
      obtain ⟨_,h1⟩:=h e (by simp)
      obtain ⟨N,rfl,hN⟩:=IsTy.node h1
      refine ⟨N :: t,rfl,fun n hn=>?_⟩
      rcases List.mem_cons.1 hn with rfl | hn
      · exact hN
      · exact h2 n hn
  obtain ⟨t,rfl,h2⟩:=key els hall
  refine ⟨t,?_,h2⟩
  unfold treeV rowC
  rw [List.length_map]
end Go.AM
namespace Go.AM
open Go
structure ActV where
  kind : Int
  leaf : Int
  name : List UInt8
  key : Nat
def ActV.cells (a : ActV) : List AV:=[.v (.int .i64 a.kind),.v (.int .i64 a.leaf),bytesV a.name .any,.v (.int .u64 a.key)]
theorem IsTy.act {avs : List AV} (h : IsTy (.struct (.cons tyI (.cons tyI (.cons tyB (.cons (.int .u64) .nil))))) avs) : ∃ a : ActV,avs = a.cells∧a.key < 2 ^ 64:=by
  obtain ⟨x1,y1,rfl,t1,h⟩:=isF_cons (isTy_struct h)
  obtain ⟨x2,y2,rfl,t2,h⟩:=isF_cons h
  obtain ⟨x3,y3,rfl,t3,h⟩:=isF_cons h
  obtain ⟨x4,y4,rfl,t4,h⟩:=isF_cons h
  obtain rfl:=isF_nil h
  obtain ⟨n1,rfl,_⟩:=isTy_int t1
  obtain ⟨n2,rfl,_⟩:=isTy_int t2
  obtain ⟨l3,rfl,_⟩:=t3.bytes
  obtain ⟨n4,rfl,w4⟩:=isTy_int t4
  obtain ⟨m4,rfl,h4⟩:=nat_u64 w4
  exact ⟨⟨n1,n2,l3,m4⟩,rfl,h4⟩
theorem fold_key {n : NodeV} (h : n.right) : n.key < 2 ^ 64:=by
  rcases node_kind h with hk | hk | hk
  · rw [(right_zero hk).1 h]; decide
  · have:=((right_one hk).1 h).2.2.1.2.1; omega
  · have:=((right_two hk).1 h).2.1.2.1; omega
theorem fold_W {t : List NodeV} (h : rightT t) : TreeW t:=by
  have hl:=h.len
  have:=hl.2.le
  refine ⟨by omega,fun n hn=>⟨by have:=(right_small (h.nodes hn)).2.2; omega,fold_key (h.nodes hn)⟩⟩
theorem right_ne {t : List NodeV} (h : rightT t) : t.length≠0:=by
  have:=h.len
  have:=this.2.le
  omega
end Go.AM
namespace Go.AM
open Go
theorem step_add (t : List NodeV) (name : List UInt8) (key : Nat) : ((addR t name key).1 = []∧(addR t name key).2.2≠0)∨(rightT (addR t name key).1∧(addR t name key).2.2 = 0):=by
  unfold addR
  by_cases h0 : rightT t
  · rw [if_neg (fun h=>h h0)]
    by_cases h1 : (leafN name key).right
    · rw [if_neg (fun h=>h h1)]
      by_cases h2 : 0≤namedI t name 0
      · rw [if_pos h2]; exact .inl ⟨rfl,by decide⟩
      · rw [if_neg h2]
        by_cases h3 : freeT t = 32
        · rw [if_pos h3]; exact .inl ⟨rfl,by decide⟩
        · rw [if_neg h3]
          exact .inr ⟨addAt_right h0 h1 rfl h2 h3,rfl⟩
    · rw [if_pos h1]; exact .inl ⟨rfl,by decide⟩
  · rw [if_pos h0]; exact .inl ⟨rfl,by decide⟩
theorem step_upd (t : List NodeV) (leaf : Int) (key : Nat) : ((updR t leaf key).1 = []∧(updR t leaf key).2≠0)∨(rightT (updR t leaf key).1∧(updR t leaf key).2 = 0):=by
  unfold updR
  by_cases h0 : rightT t
  · rw [if_neg (fun h=>h h0)]
    by_cases h1 : memI t leaf
    · rw [if_neg (fun h=>h h1)]
      by_cases h2 : keyR key
      · rw [if_neg (fun h=>h h2)]
        obtain ⟨l,rfl⟩:=Int.eq_ofNat_of_zero_le h1.1
        rw [Int.toNat_natCast]
        have hr1:=(right_one ((memN_iff rfl _).1 h1).2).1 (h0.nd _)
        exact .inr ⟨updT_right h0 h1 (leafN_name.2 ⟨hr1.1,hr1.2.1,h2⟩),rfl⟩
      · rw [if_pos h2]; exact .inl ⟨rfl,by decide⟩
    · rw [if_pos h1]; exact .inl ⟨rfl,by decide⟩
  · rw [if_pos h0]; exact .inl ⟨rfl,by decide⟩
theorem step_rm (t : List NodeV) (leaf : Int) : ((remR t leaf).1 = []∧(remR t leaf).2≠0)∨(rightT (remR t leaf).1∧(remR t leaf).2 = 0):=by
  unfold remR
  by_cases h0 : rightT t
  · rw [if_neg (fun h=>h h0)]
    by_cases h1 : memI t leaf
    · rw [if_neg (fun h=>h h1)]
      by_cases h2 : cntN (memI t) 0 (lvs t) = 1
      · rw [if_pos h2]; exact .inl ⟨rfl,by decide⟩
      · rw [if_neg h2]
        obtain ⟨l,rfl⟩:=Int.eq_ofNat_of_zero_le h1.1
        rw [Int.toNat_natCast]
        exact .inr ⟨rmT_right h0 ((memN_iff rfl _).1 h1).1,rfl⟩
    · rw [if_pos h1]; exact .inl ⟨rfl,by decide⟩
  · rw [if_pos h0]; exact .inl ⟨rfl,by decide⟩
def StepOk (t T : List NodeV) (f : Int) (k : Nat) : Prop:=TreeW T∧(f = 0→rightT T∨(T = t∧k = 3))
theorem fold_nilW : TreeW []:=⟨by simp,fun n hn=>by cases hn⟩
theorem StepOk.of {t T : List NodeV} {f : Int} {k : Nat} (h : (T = []∧f≠0)∨(rightT T∧f = 0)) : StepOk t T f k:=by
  rcases h with ⟨rfl,h⟩ | ⟨h1,h2⟩
  · exact ⟨fold_nilW,fun e=>absurd e h⟩
  · exact ⟨fold_W h1,fun _=>.inl h1⟩
theorem rest_self {k n : Int} (h0 : 0≤k) (h1 : k < n) (hn : n≤2 ^ 61) : irem (iadd .i64 (irem k n) n) n = k:=by
  unfold irem
  rw [Int.tmod_eq_of_lt h0 h1,iadd_i64 (by omega),Int.tmod_eq_emod_of_nonneg (by omega),Int.add_emod_right,Int.emod_eq_of_lt h0 h1]
end Go.AM
namespace Go.Proofs.YtfjlmkifiihgkaaGreatDoor
open Go Go.AM Go.Proofs
variable {Γ : Nat→List AV}
theorem restSelf_calls (k n : Int) (h0 : 0≤k) (h1 : k < n) (hn : n≤2 ^ 61) (s : AS) :
  ACalls Tryz.prog Γ 23 [.v (.int .i64 k),.v (.int .i64 n)] s (fun r s'=>r = .v (.int .i64 k)∧s' = s):=by
 refine acalls_body Tryz.func23 rfl Tryz.ntmps23 Tryz.results23 (by simp) ?_
 have hs:=rest_self h0 h1 hn
 have hn0 : ¬ n = 0:=by omega
 refine jA ?_
 refine jB (Ai @hn0 @hs) ?_
 exact jJ
theorem rest20_range (a n : Int) (hn : 0 < n) (hn2 : n≤2 ^ 61) : ∃ k : Nat,irem (iadd .i64 (irem a n) n) n = (k : Int)∧(k : Int) < n:=by
 have h1 : a.tmod n < n:=Int.tmod_lt_of_pos a hn
 have h2 : -n < a.tmod n:=by
  have h:=Int.natAbs_tmod a n
  have:=Nat.mod_lt a.natAbs (show 0 < n.natAbs by omega)
  omega
 unfold irem
 rw [iadd_i64 (by omega)]
 have h3 : 0≤a.tmod n + n:=by omega
 have h4:=Int.tmod_lt_of_pos (a.tmod n + n) hn
 have h5:=Int.tmod_nonneg n h3
 exact ⟨((a.tmod n + n).tmod n).toNat,by omega,by omega⟩
theorem rest20_calls (a n : Int) (hn : 0 < n) (hn2 : n≤2 ^ 61) (s : AS) :
  ACalls Tryz.prog Γ 23 [.v (.int .i64 a),.v (.int .i64 n)] s (fun r s'=>∃ k : Nat,r = .v (.int .i64 k)∧(k : Int) < n∧s' = s):=by
 refine acalls_body Tryz.func23 rfl Tryz.ntmps23 Tryz.results23 (by simp) ?_
 obtain ⟨k,h1,h2⟩:=rest20_range a n hn hn2
 have hn0 : ¬ n = 0:=by omega
 refine jA ?_
 refine jB (Ai @hn0 @h1) ?_
 refine jI ?_
 exact ⟨_,_,AV.weak.refl _,AS.le.refl _,k,rfl,h2,rfl⟩
theorem step3G_calls (hG : Γ 3 = dB64.map u8C) (t : List NodeV) (ht : TreeW t) (a : ActV) (k : Nat) (hk : k < 3) (hrest : ∀ s,ACalls Tryz.prog Γ 23 [.v (.int .i64 a.kind),.v (.int .i64 4)] s (fun r s'=>r = .v (.int .i64 (k : Nat))∧s' = s)) (hn : a.name.length≤40) (s : AS) :
  ACalls Tryz.prog Γ 14 [treeV t,.agg a.cells] s (fun r s'=>∃ (T : List NodeV) (f : Int),r = .tup [treeN T,treeN T,.v (.int .i64 f),.v (.int .i64 f),.v (.bool true)]∧s' = s∧((T = []∧f≠0)∨(rightT T∧f = 0))):=by
 obtain ⟨ak,al,an,ay⟩:=a
 simp only at hrest hn
 refine acalls_body Tryz.func14 rfl Tryz.ntmps14 Tryz.results14 (by simp) ?_
 have h1:=fun s=>ACalls.tidy (add20_calls (Γ:=Γ) hG t ht an ay (by omega) s)
 have h2:=fun s=>ACalls.tidy (refAdd20_calls (Γ:=Γ) t ht an ay (by omega) s)
 have h3:=fun s=>ACalls.tidy (update20_calls (Γ:=Γ) hG t ht al ay s)
 have h4:=fun s=>refUpdate20_calls (Γ:=Γ) t ht al ay s
 have h5:=fun s=>ACalls.tidy (remove20_calls (Γ:=Γ) hG t ht al s)
 have h6:=fun s=>refRemove20_calls (Γ:=Γ) t ht al s
 have q1:=step_add t an ay
 have q2:=step_upd t al ay
 have q3:=step_rm t al
 have hii : ((((addR t an ay).2.1 : Nat) : Int) == (((addR t an ay).2.1 : Nat) : Int)) = true:=by simp
 unfold ActV.cells
 generalize hA : (addR t an ay).1 = A at *
 generalize (addR t an ay).2.1 = Ai at *
 generalize (addR t an ay).2.2 = Ae at *
 generalize (updR t al ay).1 = U at *
 generalize (updR t al ay).2 = Ue at *
 generalize (remR t al).1 = R at *
 generalize (remR t al).2 = Re at *
 clear hA
 unfold treeV bytesV at *
 generalize rowC NodeV.cells t = X at *
 refine awp_reg_frz 3 (by decide) ?_
 intro K hK
 simp only [↓DM,pval,DX,Nz,↓DN,Qa,Qb,Qc,Qd,Qe,Qf,Qg,Qh,reduceCtorEq,↓reduceIte,Na,Nb,Nc,Nk,Nf,Ng,Nh,Za,Zb,Zc,TT]
 intro o ho
 refine hK _ _ o _ (by simp only [upd,Nc,↓reduceIte]) ho ?_
 clear hK K ho
 refine wK fun K hK=>?_
 refine jK (hrest _) ?_;rintro s1 rfl
 refine awp_block ?_
 obtain rfl | rfl | rfl : k = 0∨k = 1∨k = 2:=by omega
 ·refine jB (show (((0 : Nat) : Int) == 0) = true from rfl) ?_
  refine jE ?_
  refine jK (h1 _) ?_;rintro s2 rfl
  refine jK (h2 _) ?_;rintro s3 rfl
  refine jB @hii ?_
  refine jI ?_
  exact ⟨_,_,AV.weak.refl _,AS.le.refl _,A,Ae,rfl,rfl,q1⟩
 ·refine jB (show (((1 : Nat) : Int) == 0) = false from rfl) ?_
  refine jF ?_
  refine jB (show (((1 : Nat) : Int) == 1) = true from rfl) ?_
  refine jE ?_
  refine jK (h3 _) ?_;rintro s2 rfl
  refine jK (h4 _) ?_;rintro s3 rfl
  refine jA ?_
  refine jI ?_
  exact ⟨_,_,AV.weak.refl _,AS.le.refl _,U,Ue,rfl,rfl,q2⟩
 ·refine jB (show (((2 : Nat) : Int) == 0) = false from rfl) ?_
  refine jF ?_
  refine jB (show (((2 : Nat) : Int) == 1) = false from rfl) ?_
  refine jF ?_
  refine jB (show (((2 : Nat) : Int) == 2) = true from rfl) ?_
  refine jE ?_
  refine jK (h5 _) ?_;rintro s2 rfl
  refine jK (h6 _) ?_;rintro s3 rfl
  refine jA ?_
  refine jI ?_
  exact ⟨_,_,AV.weak.refl _,AS.le.refl _,R,Re,rfl,rfl,q3⟩
theorem step3_calls (hG : Γ 3 = dB64.map u8C) (t : List NodeV) (ht : TreeW t) (a : ActV) (k : Nat) (hk : k < 3) (ha : a.kind = k) (hn : a.name.length≤40) (s : AS) :
  ACalls Tryz.prog Γ 14 [treeV t,.agg a.cells] s (fun r s'=>∃ (T : List NodeV) (f : Int),r = .tup [treeN T,treeN T,.v (.int .i64 f),.v (.int .i64 f),.v (.bool true)]∧s' = s∧((T = []∧f≠0)∨(rightT T∧f = 0))) :=
 step3G_calls hG t ht a k hk (fun s=>by rw [ha]; exact restSelf_calls (Γ:=Γ) (k : Int) 4 (by omega) (by omega) (by decide) s) hn s
end Go.Proofs.YtfjlmkifiihgkaaGreatDoor
namespace Go.Proofs.YtfjlmkifiihgkaaGreatDoor
open Go Go.AM Go.Proofs
variable {Γ : Nat→List AV}
theorem refResolveV_calls (t : List NodeV) (hrt : rightT t) (skip : List Int) (hsk : skip.length≤2 ^ 61) (n : Nat) (hn : n < t.length) (s : AS) :
  ACalls Tryz.prog Γ 21 [treeV t,.v (.int .i64 n),intsV skip .any] s (fun r s'=>r = intsV (ResolveT t n skip) .any∧s' = s):=by
 obtain ⟨hs1,hs2⟩:=hrt.span hn
 have hT : ResolveT t n skip = resF t skip (lv n) n:=by unfold ResolveT; rw [if_pos ⟨by omega,by omega,hrt⟩,Int.toNat_natCast]
 refine ACalls.settle (refResolve20_calls t hrt skip hsk (lv n) n rfl hs2 hs1 s) ?_
 rintro r s1 ⟨hb,hle⟩
 refine ⟨s,_,(Settles.weak hb.weak).trans (Settles.le _ hle),?_,rfl⟩
 rw [hT]
 simp only [Nat.zero_add,List.nil_append]
 rfl
theorem refHashV_calls (t : List NodeV) (ht : TreeW t) (hrt : rightT t) (n : Nat) (hn : n < t.length) (s : AS) :
  ACalls Tryz.prog Γ 22 [treeV t,.v (.int .i64 n)] s (fun r s'=>r = .v (.string ⟨(HashT t n).toArray⟩)∧s' = s):=by
 obtain ⟨hs1,hs2⟩:=hrt.span hn
 have hT : HashT t n = hashF t (lv n) n:=by unfold HashT; rw [if_pos ⟨by omega,by omega,hrt⟩,Int.toNat_natCast]
 rw [hT]
 exact refHash20_calls t ht hrt (lv n) n rfl hs2 hs1 s
theorem small_node {t : List NodeV} (h : smallT t) : ∀ n ∈ t,NodeW n:=fun n hn=>by
 have:=h.2 n hn
 unfold smallN at this
 unfold NodeW
 omega
theorem ratchetRows_calls (hG0 : Γ 0 = stC Sha.H0) (hG1 : Γ 1 = Sha.K.map wV) (hG : Γ 3 = dB64.map u8C) (t : List NodeV) (hk : ∀ n ∈ t,n.key < 2 ^ 64) (a : ActV) (x : Int) (s : AS) :
  ACalls Tryz.prog Γ 4 [treeV t,.agg a.cells,.v (.int .i64 x)] s (fun r s'=>r = .v (.bool true)):=by
 refine acalls_body Tryz.func4 rfl Tryz.ntmps4 Tryz.results4 (by simp) ?_
 have haw:=fun s=>awake20_calls (Γ:=Γ) hG s
 have hsm:=fun s=>small20_calls (Γ:=Γ) t s
 obtain ⟨ak,al,an,ay⟩:=a
 unfold ActV.cells
 simp only
 by_cases h1 : smallT t
 ·by_cases h2 : an.length≤40
  ·have ht:=smallW h1 hk
   have hlen:=h1.1
   have htell:=fun s=>tells20_calls (Γ:=Γ) hG0 hG1 hG t ht (by omega) (small_node h1) s
   have hrr:=fun s=>refRight20_calls (Γ:=Γ) t ht s
   have hres:=fun s=>resolvePub_calls (Γ:=Γ) hG t ht x [al] (by simp) s
   have hhash:=fun s=>hashPub_calls (Γ:=Γ) hG0 hG1 hG t ht x s
   have hrest:=fun s=>rest20_calls (Γ:=Γ) ak 3 (by decide) (by decide) s
   have hstep:=fun (k : Nat) (h : k < 3) s=>step3_calls (Γ:=Γ) hG t ht ⟨(k : Int),al,an,ay⟩ k h rfl h2 s
   have hri:=fun (T : List NodeV) (h : TreeW T) s=>right20_calls (Γ:=Γ) hG T h s
   have hsame:=fun (T : List NodeV) (h : TreeW T) s=>sameN_calls (Γ:=Γ) T T h s
   unfold ActV.cells at hstep
   rw [decide_eq_true h1] at hsm
   have h40 : decide ((40 : Int) < (an.length : Int)) = false:=decide_eq_false (by omega)
   unfold treeV bytesV at *
   generalize hX : rowC NodeV.cells t = X at *
   refine jQ fun K hK=>?_
   intro o ho
   refine hK _ _ ?_;clear hK K
   have hobj : (s.set o [AV.v (.int .i64 ak),AV.v (.int .i64 al),AV.sl 1 an.length (an.map byteV) .any,AV.v (.int .u64 ay)]).objs o = some [AV.v (.int .i64 ak),AV.v (.int .i64 al),AV.sl 1 an.length (an.map byteV) .any,AV.v (.int .u64 ay)]:=AS.set_objs_same _ _ _
   generalize s.set o [AV.v (.int .i64 ak),AV.v (.int .i64 al),AV.sl 1 an.length (an.map byteV) .any,AV.v (.int .u64 ay)] = s0 at *
   clear ho
   refine wK fun K hK=>?_
   refine jQ fun K hK=>?_
   refine acallk (haw _) ?_
   rintro r s1 ⟨rfl,rfl⟩
   simp only [↓DM,pval,DX,Nz,↓DN,Qa,Qb,Qc,Qd,Qe,Qf,Qg,Qh,reduceCtorEq,↓reduceIte,Na,Nb,Nc,Nk,Nf,Ng,Nh,Za,Zb,Zc,TT]
   refine acallk (hsm _) ?_
   rintro r s2 ⟨rfl,rfl⟩
   refine jV (Ai @hobj @h40) hK ?_;clear hK K
   refine jF ?_
   refine awp_skip ?_
   refine hK _ _ ?_;clear hK K
   refine wK fun K hK=>?_
   refine jK (htell _) ?_;rintro s3 rfl
   refine jF ?_
   refine awp_skip ?_
   refine hK _ _ ?_;clear hK K
   refine jK (hrr _) ?_;rintro s4 rfl
   unfold intsV at hres
   refine jS @hobj fun K hK=>?_
   refine acallk (ACalls.weaks (.cons (AV.weak.refl _) (.cons (AV.weak.refl _) (.cons AV.weak_any .nil))) (hres _)) ?_
   rintro r s5 ⟨rfl,rfl⟩
   simp only [↓DM,pval,DX,Nz,↓DN,Qa,Qb,Qc,Qd,Qe,Qf,Qg,Qh,reduceCtorEq,↓reduceIte,Na,Nb,Nc,Nk,Nf,Ng,Nh,Za,Zb,Zc,TT]
   refine acallk (hhash _) ?_
   rintro r s6 ⟨rfl,rfl⟩
   refine jR hK ?_;clear hK K
   refine wK fun K hK=>?_
   have hend : ∀ (E : Env),E 0 = .sl 5 t.length X .any→E 4 = .ptr o 0→K E s6:=by
    intro E g0 g4
    refine hK _ _ ?_;clear hK K
    refine jS (Ai @g4 @hobj) fun K hK=>?_
    refine acallk (hrest _) ?_
    rintro r s7 ⟨k,rfl,hk3,rfl⟩
    refine jV (Ai @g4 @hobj) hK ?_;clear hK K
    refine jS (Ai @g0 (Ai @g4 @hobj)) fun K hK=>?_
    refine acallk (hstep k (by omega) _) ?_
    rintro r s8 ⟨T9,f,rfl,rfl,hc⟩
    refine jR hK ?_;clear hK K
    have hff : (f == f) = true:=by simp
    have hst:=fun s=>hsame T9 (by
     rcases hc with ⟨rfl,_⟩ | ⟨h,_⟩
     ·exact fold_nilW
     ·exact fold_W h) s
    rw [decide_eq_true rfl] at hst
    rcases hc with ⟨rfl,hf⟩ | ⟨hr,rfl⟩
    ·have hf' : (f != 0) = true:=bne_iff_ne.2 hf
     refine jS @hff fun K hK=>?_
     refine acallk (hst _) ?_
     rintro r s9 ⟨rfl,rfl⟩
     refine jV @hf' hK ?_;clear hK K
     refine jI ?_
     exact ⟨_,_,AV.weak.refl _,AS.le.refl _,rfl⟩
    ·have hr9:=fun s=>hri T9 (fold_W hr) s
     rw [decide_eq_true hr] at hr9
     have e9 : treeN T9 = .sl 5 T9.length (rowC NodeV.cells T9) .any:=treeN_ne (right_ne hr)
     rw [e9] at hst ⊢
     refine jS @hff fun K hK=>?_
     refine acallk (hst _) ?_
     rintro r s9 ⟨rfl,rfl⟩
     simp only [↓DM,pval,DX,Nz,↓DN,Qa,Qb,Qc,Qd,Qe,Qf,Qg,Qh,reduceCtorEq,↓reduceIte,Na,Nb,Nc,Nk,Nf,Ng,Nh,Za,Zb,Zc,TT,show ((0 : Int) != 0) = false from rfl]
     refine acallk (hr9 _) ?_
     rintro r s10 ⟨rfl,rfl⟩
     refine jR hK ?_;clear hK K
     refine jI ?_
     exact ⟨_,_,AV.weak.refl _,AS.le.refl _,rfl⟩
   clear hK
   by_cases hC : 0≤x∧x < (t.length : Int)∧rightT t
   ·obtain ⟨c1,c2,c3⟩:=hC
    obtain ⟨n,rfl⟩:=Int.eq_ofNat_of_zero_le c1
    have hdr : decide (rightT t) = true:=decide_eq_true c3
    have hrv:=fun s=>refResolveV_calls (Γ:=Γ) t c3 [al] (by simp) n (by omega) s
    have hhv:=fun s=>refHashV_calls (Γ:=Γ) t ht c3 n (by omega) s
    have hin:=fun s=>refInts_calls (Γ:=Γ) (ResolveT t n [al]) (ResolveT t n [al]) (by
     have e : ResolveT t n [al] = resF t [al] (lv n) n:=by unfold ResolveT; rw [if_pos ⟨by omega,by omega,c3⟩,Int.toNat_natCast]
     have hb:=resF_len c3 [al] (lv n) n
     have hp:=pow_le5 (lv_le n)
     rw [e]
     omega) s
    rw [decide_eq_true rfl] at hin
    have hHH : (HashT t n != HashT t n) = false:=by simp
    unfold treeV at hrv hhv
    unfold intsV at hrv hin
    rw [hX] at hrv hhv
    generalize ResolveT t n [al] = RT at *
    generalize HashT t n = HT at *
    refine jB (Ai @hdr (Ai (decide_eq_false (show ¬ ((n : Nat) : Int) < 0 by omega)) (decide_eq_false (show ¬ (t.length : Int)≤((n : Nat) : Int) by omega)))) ?_
    refine jF ?_
    refine awp_drw_seq T.mixed [4,6,7,14] (by kernel_rfl) ?_
    intro K hK
    simp only [↓DM,pval,DX,Nz,↓DN,Qa,Qb,Qc,Qd,Qe,Qf,Qg,Qh,reduceCtorEq,↓reduceIte,Na,Nb,Nc,Nk,Nf,Ng,Nh,Za,Zb,Zc,TT,hobj]
    refine acallk (ACalls.weaks (.cons (AV.weak.refl _) (.cons (AV.weak.refl _) (.cons AV.weak_any .nil))) (hrv _)) ?_
    rintro r s7 ⟨rfl,rfl⟩
    simp only [↓DM,pval,DX,Nz,↓DN,Qa,Qb,Qc,Qd,Qe,Qf,Qg,Qh,reduceCtorEq,↓reduceIte,Na,Nb,Nc,Nk,Nf,Ng,Nh,Za,Zb,Zc,TT]
    refine acallk (hin _) ?_
    rintro r s8 ⟨rfl,rfl⟩
    simp only [↓DM,pval,DX,Nz,↓DN,Qa,Qb,Qc,Qd,Qe,Qf,Qg,Qh,reduceCtorEq,↓reduceIte,Na,Nb,Nc,Nk,Nf,Ng,Nh,Za,Zb,Zc,TT]
    refine acallk (hhv _) ?_
    rintro r s9 ⟨rfl,rfl⟩
    simp only [↓DM,pval,DX,Nz,↓DN,Qa,Qb,Qc,Qd,Qe,Qf,Qg,Qh,reduceCtorEq,↓reduceIte,Na,Nb,Nc,Nk,Nf,Ng,Nh,Za,Zb,Zc,TT,hHH,List.toList_toArray]
    refine hK _ _ ?_;clear hK K
    refine jF ?_
    refine awp_skip ?_
    exact hend _ (by simp only [upd,initE,List.getD_cons_zero,List.getD_cons_succ,Nc,↓reduceIte]) (by simp only [upd,Nc,↓reduceIte])
   ·have e1 : ResolveT t x [al] = []:=if_neg hC
    have e2 : HashT t x = []:=if_neg hC
    rw [e1,e2]
    by_cases hr : rightT t
    ·by_cases hx : x < 0
     ·refine jB (Ai (decide_eq_true hr) (decide_eq_true hx)) ?_
      refine jE ?_
      refine wS fun K hK=>?_
      simp only [↓DN,Qa,Qb,Qc,Qd,Qe,Qf,Qg,Qh,reduceCtorEq,↓reduceIte,Na,Nb,Nc,Nk,Nf,Ng,Nh,Za,Zb,Zc,TT,List.length_nil,show (((0 : Nat) : Int) != 0) = false from rfl]
      refine hK _ _ ?_;clear hK K
      refine jF ?_
      refine awp_skip ?_
      exact hend _ (by simp only [upd,initE,List.getD_cons_zero,List.getD_cons_succ,Nc,↓reduceIte]) (by simp only [upd,Nc,↓reduceIte])
     ·have hge : (t.length : Int)≤x:=by
       rcases Int.lt_or_le x t.length with q | q
       ·exact absurd ⟨by omega,q,hr⟩ hC
       ·exact q
      refine jB (Ai (decide_eq_true hr) (Ai (decide_eq_false hx) (decide_eq_true hge))) ?_
      refine jE ?_
      refine wS fun K hK=>?_
      simp only [↓DN,Qa,Qb,Qc,Qd,Qe,Qf,Qg,Qh,reduceCtorEq,↓reduceIte,Na,Nb,Nc,Nk,Nf,Ng,Nh,Za,Zb,Zc,TT,List.length_nil,show (((0 : Nat) : Int) != 0) = false from rfl]
      refine hK _ _ ?_;clear hK K
      refine jF ?_
      refine awp_skip ?_
      exact hend _ (by simp only [upd,initE,List.getD_cons_zero,List.getD_cons_succ,Nc,↓reduceIte]) (by simp only [upd,Nc,↓reduceIte])
    ·refine jB (decide_eq_false hr) ?_
     refine jE ?_
     refine wS fun K hK=>?_
     simp only [↓DN,Qa,Qb,Qc,Qd,Qe,Qf,Qg,Qh,reduceCtorEq,↓reduceIte,Na,Nb,Nc,Nk,Nf,Ng,Nh,Za,Zb,Zc,TT,List.length_nil,show (((0 : Nat) : Int) != 0) = false from rfl]
     refine hK _ _ ?_;clear hK K
     refine jF ?_
     refine awp_skip ?_
     exact hend _ (by simp only [upd,initE,List.getD_cons_zero,List.getD_cons_succ,Nc,↓reduceIte]) (by simp only [upd,Nc,↓reduceIte])
  ·have h40 : decide ((40 : Int) < (an.length : Int)) = true:=decide_eq_true (by omega)
   rw [decide_eq_true h1] at hsm
   unfold treeV bytesV at *
   generalize rowC NodeV.cells t = X at *
   refine jQ fun K hK=>?_
   intro o ho
   refine hK _ _ ?_;clear hK K
   have hobj : (s.set o [AV.v (.int .i64 ak),AV.v (.int .i64 al),AV.sl 1 an.length (an.map byteV) .any,AV.v (.int .u64 ay)]).objs o = some [AV.v (.int .i64 ak),AV.v (.int .i64 al),AV.sl 1 an.length (an.map byteV) .any,AV.v (.int .u64 ay)]:=AS.set_objs_same _ _ _
   generalize s.set o [AV.v (.int .i64 ak),AV.v (.int .i64 al),AV.sl 1 an.length (an.map byteV) .any,AV.v (.int .u64 ay)] = s0 at *
   clear ho
   refine wK fun K hK=>?_
   refine jQ fun K hK=>?_
   refine acallk (haw _) ?_
   rintro r s1 ⟨rfl,rfl⟩
   simp only [↓DM,pval,DX,Nz,↓DN,Qa,Qb,Qc,Qd,Qe,Qf,Qg,Qh,reduceCtorEq,↓reduceIte,Na,Nb,Nc,Nk,Nf,Ng,Nh,Za,Zb,Zc,TT]
   refine acallk (hsm _) ?_
   rintro r s2 ⟨rfl,rfl⟩
   refine jV (Ai @hobj @h40) hK ?_;clear hK K
   refine jE ?_
   refine jK (haw _) ?_;rintro s3 rfl
   refine jI ?_
   exact ⟨_,_,AV.weak.refl _,AS.le.refl _,rfl⟩
 ·rw [decide_eq_false h1] at hsm
  unfold treeV bytesV at *
  generalize rowC NodeV.cells t = X at *
  refine jQ fun K hK=>?_
  intro o ho
  refine hK _ _ ?_;clear hK K
  refine wK fun K hK=>?_
  refine jQ fun K hK=>?_
  refine acallk (haw _) ?_
  rintro r s1 ⟨rfl,rfl⟩
  simp only [↓DM,pval,DX,Nz,↓DN,Qa,Qb,Qc,Qd,Qe,Qf,Qg,Qh,reduceCtorEq,↓reduceIte,Na,Nb,Nc,Nk,Nf,Ng,Nh,Za,Zb,Zc,TT]
  refine acallk (hsm _) ?_
  rintro r s2 ⟨rfl,rfl⟩
  refine jR hK ?_;clear hK K
  refine jE ?_
  refine jK (haw _) ?_;rintro s3 rfl
  refine jI ?_
  exact ⟨_,_,AV.weak.refl _,AS.le.refl _,rfl⟩
end Go.Proofs.YtfjlmkifiihgkaaGreatDoor
namespace Go.Proofs.YtfjlmkifiihgkaaGreatDoor
open Go Go.AM Go.Proofs
def dB32 : List Nat:=[0,1,28,2,29,14,24,3,30,22,20,15,25,17,4,8,31,27,13,23,21,19,16,7,26,12,18,6,11,5,10,9]
def Γd (g : Nat) : List AV:=if g = 0 then [wV Sha.H0.a,wV Sha.H0.b,wV Sha.H0.c,wV Sha.H0.d,wV Sha.H0.e,wV Sha.H0.f,wV Sha.H0.g,wV Sha.H0.h] else if g = 1 then Sha.K.map wV else if g = 2 then dB32.map u8C else if g = 3 then dB64.map u8C else []
abbrev laidD : List (String × DataW Unit):=[("math/bits.deBruijn32tab", Rows.laid_math_bits_deBruijn32tab),("math/bits.deBruijn64tab", Rows.laid_math_bits_deBruijn64tab),("engrosser/sha.rounds", Rows.laid_engrosser_sha_rounds),("engrosser/sha.start", Rows.laid_engrosser_sha_start)]
theorem ints_of_trod {H : Type} {enc : TypeId × Value→H} {P : Program} {W : World} {base : Nat} {sp : Nat→Bool} {held : Bool} {fuel : Nat} {t e : TypeId} {n : Nat} {cs : List Value} {p : List MemPlace} {l : List Nat} {kd : IntKind}
    (hT : P.underlying t = some (.array n e)) (he : P.underlying e = some (.int kd)) (hc : P.cellsOf e = 1)
    (h : DataW.trod enc P W base sp held fuel t cs = some (.agg (l.map fun (x : Nat)=>.lit (.int kd (x : Int))),p)) : ∀ (i x : Nat),l[i]? = some x→cs[i]? = some (.int kd (x : Int)):=by
  obtain ⟨xs,m,rfl,hx,hlen,hn,hel⟩:=DataW.trod_array hT h
  simp only [Prod.mk.injEq,DataW.agg.injEq] at hx
  intro i x hi
  have h1 : (l.map fun (x : Nat)=>DataW.lit (H:=H) (.int kd (x : Int)))[i]? = some (.lit (.int kd (x : Int))):=by rw [List.getElem?_map,hi]; rfl
  rw [hx.1,List.getElem?_map] at h1
  cases hy : xs[i]? with
  | none=>rw [hy] at h1; cases h1
  | some y =>
    rw [hy] at h1
    simp only [Option.map_some,Option.some.injEq] at h1
    have hlt:=(List.getElem?_eq_some_iff.1 hy).1
    have h2:=hel i (by omega)
    rw [hy,hc,Nat.mul_one] at h2
    obtain ⟨k,e1,e2,_⟩:=DataW.trod_int he h2
    rw [e2] at h1
    simp only [DataW.lit.injEq,Lit.int.injEq,true_and] at h1
    have h3 : (List.take 1 (List.drop i cs))[0]? = some (.int kd k):=by rw [e1]; rfl
    rw [List.getElem?_take,if_pos (by decide),List.getElem?_drop,Nat.add_zero,h1] at h3
    exact h3
theorem gRounds : Tryz.prog.globalNamed "engrosser/sha.rounds" = some 1:=by kernel_rfl
theorem gStart : Tryz.prog.globalNamed "engrosser/sha.start" = some 0:=by kernel_rfl
theorem gB32 : Tryz.prog.globalNamed "math/bits.deBruijn32tab" = some 2:=by kernel_rfl
theorem gB64 : Tryz.prog.globalNamed "math/bits.deBruijn64tab" = some 3:=by kernel_rfl
theorem tRounds : (Tryz.prog.globals[1]?).map (·.type) = some 265:=by kernel_rfl
theorem tStart : (Tryz.prog.globals[0]?).map (·.type) = some 214:=by kernel_rfl
theorem tB32 : (Tryz.prog.globals[2]?).map (·.type) = some 283:=by kernel_rfl
theorem tB64 : (Tryz.prog.globals[3]?).map (·.type) = some 284:=by kernel_rfl
theorem words_at {kd : IntKind} {W : World} {g : Nat} {cs : Array Value} {l : List Nat} (hc : ∀ i,W.cell? ⟨g,i,none⟩ = cs[i]?) (h : ∀ (i x : Nat),l[i]? = some x→cs.toList[i]? = some (.int kd (x : Int))) :
    ∃ vs,VRels (G0 W) (l.map fun (x : Nat)=>.v (.int kd (x : Int))) vs∧RoAt (G0 W) g 0 vs:=by
  refine ⟨l.map fun (x : Nat)=>.int kd (x : Int),?_,?_⟩
  · have:=VRels.vals (G:=G0 W) (l.map fun (x : Nat)=>Value.int kd (x : Int))
    rwa [List.map_map] at this
  · intro j u hu
    rw [List.getElem?_map] at hu
    cases hj : l[j]? with
    | none=>rw [hj] at hu; cases hu
    | some x =>
      rw [hj] at hu
      simp only [Option.map_some,Option.some.injEq] at hu
      have:=h j x hj
      show W.cell? ⟨g,0 + j,none⟩ = some u
      rw [Nat.zero_add,hc j,← hu]
      simpa using this
theorem of_laid {W : World} (h : laidMetH Tryz.prog laidD W) : ∀ g,∃ vs,VRels (G0 W) (Γd g) vs∧RoAt (G0 W) g 0 vs:=by
  rw [MakeChecks.laidMetH_plain _ _ _ (by kernel_rfl)] at h
  obtain ⟨ps,⟨g0,t0,cs0,f0,p0,q0,hg0,ht0,hv0,hd0,⟨g1,t1,cs1,f1,p1,q1,hg1,ht1,hv1,hd1,⟨g2,t2,cs2,f2,p2,q2,hg2,ht2,hv2,hd2,⟨g3,t3,cs3,f3,p3,q3,hg3,ht3,hv3,hd3,_,_⟩,_⟩,_⟩,_⟩,_,_⟩:=h
  obtain rfl:=Option.some.inj (gB32.symm.trans hg0)
  obtain rfl:=Option.some.inj (gB64.symm.trans hg1)
  obtain rfl:=Option.some.inj (gRounds.symm.trans hg2)
  obtain rfl:=Option.some.inj (gStart.symm.trans hg3)
  obtain rfl:=Option.some.inj (tB32.symm.trans ht0)
  obtain rfl:=Option.some.inj (tB64.symm.trans ht1)
  obtain rfl:=Option.some.inj (tRounds.symm.trans ht2)
  obtain rfl:=Option.some.inj (tStart.symm.trans ht3)
  have h2:=words_at (World.var?_cell hg0 hv0) (ints_of_trod (l:=dB32) Tryz.underlying283 Tryz.underlying5 T.c5 hd0)
  have h3:=words_at (World.var?_cell hg1 hv1) (ints_of_trod (l:=dB64) Tryz.underlying284 Tryz.underlying5 T.c5 hd1)
  have h1:=words_at (World.var?_cell hg2 hv2) (ints_of_trod (l:=Sha.K) Tryz.underlying265 Tryz.underlying213 T.c213 hd2)
  have h0:=words_at (World.var?_cell hg3 hv3) (ints_of_trod (l:=Sha.H0.list) Tryz.underlying214 Tryz.underlying213 T.c213 hd3)
  intro g
  by_cases e0 : g = 0
  · subst e0; exact h0
  · by_cases e1 : g = 1
    · subst e1; exact h1
    · by_cases e2 : g = 2
      · subst e2; exact h2
      · by_cases e3 : g = 3
        · subst e3; exact h3
        · refine ⟨[],?_,fun j u h=>by simp at h⟩
          simp [Γd,e0,e1,e2,e3,VRels]
theorem door_met (os : Os) (args : Array Value) : laidMetH Tryz.prog laidD ((World.doorLaid Tryz.prog 400 os).forCall (fun _ _=>0) ⟨#[],args,[]⟩).memory:=by
  rw [MakeChecks.laidMetH_plain _ _ _ (by kernel_rfl)]
  exact laidMet_of_run' 8 (by kernel_rfl) (by kernel_rfl)
end Go.Proofs.YtfjlmkifiihgkaaGreatDoor
