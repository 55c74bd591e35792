/- Contracts of the program's functions, each walked once; the conditions stand in each theorem. -/
import Derived.Test.YtfjlmkifiihgkaaGreatDoorAMp6
import Derived.Test.YtfjlmkifiihgkaaGreatDoorW1
import Derived.Test.YtfjlmkifiihgkaaGreatDoorW11
import Derived.Test.YtfjlmkifiihgkaaGreatDoorW4
import Derived.Test.YtfjlmkifiihgkaaGreatDoorW2
import Derived.Test.YtfjlmkifiihgkaaGreatDoorAMp5
import Derived.Test.YtfjlmkifiihgkaaGreatDoorW5
import Derived.Test.YtfjlmkifiihgkaaGreatDoorW9
import Derived.Test.YtfjlmkifiihgkaaGreatDoorW6
import Derived.Test.YtfjlmkifiihgkaaGreatDoorW8
import Derived.Test.YtfjlmkifiihgkaaGreatDoorAMp4
import Derived.Test.YtfjlmkifiihgkaaGreatDoorW10
import Derived.Test.YtfjlmkifiihgkaaGreatDoorAMp7
import Derived.Test.YtfjlmkifiihgkaaGreatDoorW3
set_option linter.unusedSimpArgs false
set_option linter.unusedVariables false
open Nat renaming reduceLT → Na, reduceLeDiff → Nb, reduceEqDiff → Nc, reduceAdd → Nk, reduceMul → Nf, reducePow → Ng, reduceSub → Nh, reduceBEq → Nz
open Int renaming reduceLT → Za, reduceLE → Zb, reduceToNat → Zc
open And renaming intro → Ai
open Go.AM renaming ashift → Qa, aconv → Qb, aindexAddr → Qc, aindex → Qd, aslice → Qe, abuiltin → Qf, awp_reg_seq → wS, awp_reg_end → wE, awp_seq_k → wK, awp_cond_k → wC
open Go.AM.AV renaming cells → Qg, one → Qh
set_option maxRecDepth 100000
set_option maxHeartbeats 8000000
set_option autoImplicit false
namespace Go.Proofs.YtfjlmkifiihgkaaGreatDoor
open Go Go.AM Go.Proofs
variable {Γ : Nat→List AV}
theorem namedR_ge {t : List NodeV} {name : List UInt8} (h1 : rightT t) (h : 0≤namedI t name 0) : 0≤namedR t name:=by
 have h2:=(firstN_ge (fun j=>decide (memI t j∧(nd t (2 * j)).name = name)) (hlf t - 0) 0).1 (decide_eq_true h)
 obtain ⟨j,_,hj,hp⟩:=h2
 obtain ⟨a,b⟩:=of_decide_eq_true hp
 rcases namedR_spec (t:=t) name with ⟨k,_,_,_,h4,_⟩ | ⟨_,h5⟩
 ·omega
 ·exact absurd ⟨(memR_iff h1.1 _).2 a,b⟩ (h5 j (by omega))
theorem refAdd20_calls (t : List NodeV) (ht : TreeW t) (name : List UInt8) (key : Nat) (hn : name.length≤2 ^ 45) (s : AS) :
  ACalls Tryz.prog Γ 61 [treeV t,.v (.string ⟨name.toArray⟩),.v (.int .u64 key)] s (fun r s'=>r = .tup [treeN (addR t name key).1,.v (.int .i64 (addR t name key).2.1),.v (.int .i64 (addR t name key).2.2)]∧s.le s'):=by
 have hc:=fun s=>refLeafOf20_calls (Γ:=Γ) name key hn s
 have hr:=fun s=>refRight20_calls (Γ:=Γ) t ht s
 have hlr:=fun s=>refRight19_calls (Γ:=Γ) (leafN name key) (by simp [leafN]) s
 have hnm:=fun s=>refNamed_calls (Γ:=Γ) t ht.1 name s
 have hcells : (leafN name key).cells = [.v (.int .i64 1),bytesV name .any,.v (.int .u64 key),bytesV [] .any,intsV [] .any]:=rfl
 rw [hcells] at hc hlr
 by_cases h1 : rightT t
 ·rw [decide_eq_true h1] at hr
  by_cases h2 : (leafN name key).right
  ·by_cases h3 : 0≤namedI t name 0
   ·have hres : addR t name key = ([],0,31):=by unfold addR; rw [if_neg (fun h=>h h1),if_neg (fun h=>h h2),if_pos h3]
    rw [hres]
    have hnr:=namedR_ge h1 h3
    generalize namedR t name = nr at *
    rw [decide_eq_true h2] at hlr
    refine acalls_body Tryz.func61 rfl Tryz.ntmps61 Tryz.results61 (by simp) ?_
    unfold bytesV intsV at *
    unfold treeV at *
    generalize rowC NodeV.cells t = X at *
    refine jA ?_
    refine wK fun K hK=>?_
    refine jK (hr _) ?_;rintro s1 rfl
    refine jF ?_
    refine awp_skip ?_
    refine hK _ _ ?_;clear hK K
    refine awp_reg_frz 9 (by decide) ?_
    intro K hK
    simp only [↓DM,pval,DX,Nz,↓DN,Qa,Qb,Qc,Qd,Qe,Qf,Qg,Qh,reduceCtorEq,↓reduceIte,Na,Nb,Nc,Nk,Nf,Ng,Nh,Za,Zb,Zc,TT]
    refine acallk (hc _) ?_
    rintro r s2 ⟨rfl,rfl⟩
    simp only [↓DM,pval,DX,Nz,↓DN,Qa,Qb,Qc,Qd,Qe,Qf,Qg,Qh,reduceCtorEq,↓reduceIte,Na,Nb,Nc,Nk,Nf,Ng,Nh,Za,Zb,Zc,TT]
    intro o ho
    refine hK _ _ o _ (by simp only [upd,Nc,↓reduceIte]) ho ?_
    clear hK K ho
    refine wK fun K hK=>?_
    refine jK (hlr _) ?_;rintro s3 rfl
    refine jF ?_
    refine awp_skip ?_
    refine hK _ _ ?_;clear hK K
    refine wK fun K hK=>?_
    refine jQ fun K hK=>?_
    refine acallk (hnm _) ?_
    rintro r s4 ⟨rfl,rfl⟩
    refine jV (decide_eq_true hnr) hK ?_;clear hK K
    refine jE ?_
    refine jA ?_
    refine jI ?_
    exact ⟨_,_,AV.weak.refl _,AS.le.refl _,rfl,AS.le.refl _⟩
   ·exact refAddMain_calls t ht name key hn h1 h2 h3 s
  ·have hres : addR t name key = ([],0,2):=by unfold addR; rw [if_neg (fun h=>h h1),if_pos h2]
   rw [hres]
   rw [decide_eq_false h2] at hlr
   refine acalls_body Tryz.func61 rfl Tryz.ntmps61 Tryz.results61 (by simp) ?_
   unfold bytesV intsV at *
   unfold treeV at *
   generalize rowC NodeV.cells t = X at *
   refine jA ?_
   refine wK fun K hK=>?_
   refine jK (hr _) ?_;rintro s1 rfl
   refine jF ?_
   refine awp_skip ?_
   refine hK _ _ ?_;clear hK K
   refine awp_reg_frz 9 (by decide) ?_
   intro K hK
   simp only [↓DM,pval,DX,Nz,↓DN,Qa,Qb,Qc,Qd,Qe,Qf,Qg,Qh,reduceCtorEq,↓reduceIte,Na,Nb,Nc,Nk,Nf,Ng,Nh,Za,Zb,Zc,TT]
   refine acallk (hc _) ?_
   rintro r s2 ⟨rfl,rfl⟩
   simp only [↓DM,pval,DX,Nz,↓DN,Qa,Qb,Qc,Qd,Qe,Qf,Qg,Qh,reduceCtorEq,↓reduceIte,Na,Nb,Nc,Nk,Nf,Ng,Nh,Za,Zb,Zc,TT]
   intro o ho
   refine hK _ _ o _ (by simp only [upd,Nc,↓reduceIte]) ho ?_
   clear hK K ho
   refine wK fun K hK=>?_
   refine jK (hlr _) ?_;rintro s3 rfl
   refine jE ?_
   refine jA ?_
   refine jI ?_
   exact ⟨_,_,AV.weak.refl _,AS.le.refl _,rfl,AS.le.refl _⟩
 ·have hres : addR t name key = ([],0,40):=if_pos h1
  rw [hres]
  rw [decide_eq_false h1] at hr
  refine acalls_body Tryz.func61 rfl Tryz.ntmps61 Tryz.results61 (by simp) ?_
  unfold treeV at *
  generalize rowC NodeV.cells t = X at *
  refine jA ?_
  refine wK fun K hK=>?_
  refine jK (hr _) ?_;rintro s1 rfl
  refine jE ?_
  refine jA ?_
  refine jI ?_
  exact ⟨_,_,AV.weak.refl _,AS.le.refl _,rfl,AS.le.refl _⟩
theorem refNew20_calls (name : List UInt8) (key : Nat) (hn : name.length≤2 ^ 45) (s : AS) : ACalls Tryz.prog Γ 12 [.v (.string ⟨name.toArray⟩),.v (.int .u64 key)] s
  (fun r s'=>r = (if (leafN name key).right then .tup [treeV [leafN name key],.v (.int .i64 0)] else .tup [nilS,.v (.int .i64 2)])∧s' = s):=by
 have hc:=fun s=>refLeafOf20_calls (Γ:=Γ) name key hn s
 have hr:=fun s=>refRight19_calls (Γ:=Γ) (leafN name key) (by simp [leafN]) s
 have hcells : (leafN name key).cells = [.v (.int .i64 1),bytesV name .any,.v (.int .u64 key),bytesV [] .any,intsV [] .any]:=rfl
 have htree : treeV [leafN name key] = .sl 5 1 [.v (.int .i64 1),bytesV name .any,.v (.int .u64 key),bytesV [] .any,intsV [] .any] .any:=rfl
 rw [htree]
 rw [hcells] at hc hr
 by_cases h : (leafN name key).right
 ·rw [if_pos h]
  refine acalls_body Tryz.func12 rfl Tryz.ntmps12 Tryz.results12 (by simp) ?_
  rw [decide_eq_true h] at hr
  unfold bytesV intsV at *
  refine jA ?_
  refine awp_reg_frz 6 (by decide) ?_
  intro K hK
  simp only [↓DM,pval,DX,Nz,↓DN,Qa,Qb,Qc,Qd,Qe,Qf,Qg,Qh,reduceCtorEq,↓reduceIte,Na,Nb,Nc,Nk,Nf,Ng,Nh,Za,Zb,Zc,TT]
  refine acallk (hc _) ?_
  rintro r s1 ⟨rfl,rfl⟩
  simp only [↓DM,pval,DX,Nz,↓DN,Qa,Qb,Qc,Qd,Qe,Qf,Qg,Qh,reduceCtorEq,↓reduceIte,Na,Nb,Nc,Nk,Nf,Ng,Nh,Za,Zb,Zc,TT]
  intro o ho
  refine hK _ _ o _ (by simp only [upd,Nc,↓reduceIte]) ho ?_
  clear hK K ho
  refine wK fun K hK=>?_
  refine jK (hr _) ?_;rintro s2 rfl
  refine jF ?_
  refine awp_skip ?_
  refine hK _ _ ?_;clear hK K
  refine jB @zrow_quin ?_
  refine jI ?_
  exact ⟨_,_,AV.weak_tup2 AV.weak_any (AV.weak.refl _),AS.le.refl _,rfl,rfl⟩
 ·rw [if_neg h]
  refine acalls_body Tryz.func12 rfl Tryz.ntmps12 Tryz.results12 (by simp) ?_
  clear htree
  rw [decide_eq_false h] at hr
  unfold bytesV intsV at *
  refine jA ?_
  refine awp_reg_frz 6 (by decide) ?_
  intro K hK
  simp only [↓DM,pval,DX,Nz,↓DN,Qa,Qb,Qc,Qd,Qe,Qf,Qg,Qh,reduceCtorEq,↓reduceIte,Na,Nb,Nc,Nk,Nf,Ng,Nh,Za,Zb,Zc,TT]
  refine acallk (hc _) ?_
  rintro r s1 ⟨rfl,rfl⟩
  simp only [↓DM,pval,DX,Nz,↓DN,Qa,Qb,Qc,Qd,Qe,Qf,Qg,Qh,reduceCtorEq,↓reduceIte,Na,Nb,Nc,Nk,Nf,Ng,Nh,Za,Zb,Zc,TT]
  intro o ho
  refine hK _ _ o _ (by simp only [upd,Nc,↓reduceIte]) ho ?_
  clear hK K ho
  refine wK fun K hK=>?_
  refine jK (hr _) ?_;rintro s2 rfl
  refine jE ?_
  refine jA ?_
  exact jJ
end Go.Proofs.YtfjlmkifiihgkaaGreatDoor
namespace Go.Proofs.YtfjlmkifiihgkaaGreatDoor
open Go Go.AM Go.Proofs
variable {Γ : Nat→List AV}
def ex1 : List NodeV:=[leafN [97] 9]
def ex2 : List NodeV:=(addR ex1 [98] 9).1
def ex3 : List NodeV:=(addR ex2 [99] 9).1
def ex4 : List NodeV:=(remR ex3 2).1
instance (t : List NodeV) : Decidable (TreeW t):=by unfold TreeW; infer_instance
theorem ex1_ok : (leafN [97] 9).right∧TreeW ex1:=by decide +kernel
theorem ex2_ok : (addR ex1 [98] 9).2 = (1,0)∧ex2.length = 3∧TreeW ex2:=by decide +kernel
theorem ex3_ok : (addR ex2 [99] 9).2 = (2,0)∧ex3.length = 7∧TreeW ex3∧(if rightT ex3 then lvs ex3 else 0) = 4:=by decide +kernel
theorem ex4_ok : (remR ex3 2).2 = 0∧ex4.length = 3∧TreeW ex4∧(if rightT ex4 then lvs ex4 else 0) = 2:=by decide +kernel
theorem awake20_calls (hG : Γ 3 = dB64.map u8C) (s : AS) : ACalls Tryz.prog Γ 10 [] s (fun r s'=>r = .v (.bool true)∧s' = s):=by
 refine acalls_body Tryz.func10 rfl Tryz.ntmps10 Tryz.results10 (by simp) ?_
 have h1:=fun s=>new20_calls (Γ:=Γ) [97] 9 (by decide) s
 have h2:=fun s=>ACalls.tidy (add20_calls (Γ:=Γ) hG ex1 ex1_ok.2 [98] 9 (by decide) s)
 have h3:=fun s=>ACalls.tidy (add20_calls (Γ:=Γ) hG ex2 ex2_ok.2.2 [99] 9 (by decide) s)
 have h4:=fun s=>ACalls.tidy (remove20_calls (Γ:=Γ) hG ex3 ex3_ok.2.2.1 2 s)
 have h5:=fun s=>leaves20_calls (Γ:=Γ) hG ex3 ex3_ok.2.2.1 s
 have h6:=fun s=>leaves20_calls (Γ:=Γ) hG ex4 ex4_ok.2.2.1 s
 rw [ex3_ok.2.2.2] at h5
 rw [ex4_ok.2.2.2] at h6
 have e1 : treeV [leafN [97] 9] = treeV ex1:=rfl
 rw [if_pos ex1_ok.1,e1] at h1
 have e2 : treeN (addR ex1 [98] 9).1 = treeV ex2:=treeN_ne (by rw [show (addR ex1 [98] 9).1 = ex2 from rfl,ex2_ok.2.1]; decide)
 have e3 : treeN (addR ex2 [99] 9).1 = treeV ex3:=treeN_ne (by rw [show (addR ex2 [99] 9).1 = ex3 from rfl,ex3_ok.2.1]; decide)
 have e4 : treeN (remR ex3 2).1 = treeV ex4:=treeN_ne (by rw [show (remR ex3 2).1 = ex4 from rfl,ex4_ok.2.1]; decide)
 rw [e2,ex2_ok.1] at h2
 rw [e3,ex3_ok.1] at h3
 rw [e4,ex4_ok.1] at h4
 generalize treeV ex1 = t1 at *
 generalize treeV ex2 = t2 at *
 generalize treeV ex3 = t3 at *
 generalize treeV ex4 = t4 at *
 unfold bytesV at *
 refine jA ?_
 refine jS (show List.replicate 1 (AV.v (.int .u8 0)) = [AV.v (.int .u8 0)] from rfl) fun K hK=>?_
 refine acallk (ACalls.weaks (.cons AV.weak_any (.cons (AV.weak.refl _) .nil)) (h1 _)) ?_
 rintro r s1 ⟨rfl,rfl⟩
 refine jR hK ?_;clear hK K
 refine jS (show List.replicate 1 (AV.v (.int .u8 0)) = [AV.v (.int .u8 0)] from rfl) fun K hK=>?_
 refine acallk (ACalls.weaks (.cons (AV.weak.refl _) (.cons AV.weak_any (.cons (AV.weak.refl _) .nil))) (h2 _)) ?_
 rintro r s2 ⟨rfl,rfl⟩
 refine jR hK ?_;clear hK K
 refine jS (show List.replicate 1 (AV.v (.int .u8 0)) = [AV.v (.int .u8 0)] from rfl) fun K hK=>?_
 refine acallk (ACalls.weaks (.cons (AV.weak.refl _) (.cons AV.weak_any (.cons (AV.weak.refl _) .nil))) (h3 _)) ?_
 rintro r s3 ⟨rfl,rfl⟩
 refine jR hK ?_;clear hK K
 refine jK (h4 _) ?_;rintro s4 rfl
 refine jS (Ai (show ((0 : Int) == 0) = true from rfl) (Ai (show ((2 : Int) == 2) = true from rfl) (Ai (show (((2 : Nat) : Int) == 2) = true from rfl) (show (((0 : Nat) : Int) == 0) = true from rfl)))) fun K hK=>?_
 refine acallk (h5 _) ?_
 rintro r s5 ⟨rfl,rfl⟩
 simp only [↓DM,pval,DX,Nz,↓DN,Qa,Qb,Qc,Qd,Qe,Qf,Qg,Qh,reduceCtorEq,↓reduceIte,Na,Nb,Nc,Nk,Nf,Ng,Nh,Za,Zb,Zc,TT,show (((4 : Nat) : Int) == 4) = true from rfl]
 refine acallk (h6 _) ?_
 rintro r s6 ⟨rfl,rfl⟩
 refine jV (show (((2 : Nat) : Int) == 2) = true from rfl) hK ?_;clear hK K
 exact jJ
def smallN (n : NodeV) : Prop:=n.name.length≤40∧n.parent.length≤60∧n.unm.length≤40
def smallT (t : List NodeV) : Prop:=t.length≤63∧∀ n ∈ t,smallN n
instance (n : NodeV) : Decidable (smallN n):=by unfold smallN; infer_instance
instance (t : List NodeV) : Decidable (smallT t):=by unfold smallT; infer_instance
end Go.Proofs.YtfjlmkifiihgkaaGreatDoor
namespace Go.Proofs.YtfjlmkifiihgkaaGreatDoor
open Go Go.AM Go.Proofs
variable {Γ : Nat→List AV}
theorem sameN_calls (a b : List NodeV) (ha : TreeW a) (s : AS) : ACalls Tryz.prog Γ 13 [treeN a,treeN b] s (fun r s'=>r = .v (.bool (decide (a = b)))∧s' = s):=by
  have hw : ∀ t,(treeN t).weak (treeV t):=by
    intro t
    unfold treeN
    split
    · rename_i h
      rw [h]
      exact AV.weak_nil
    · exact AV.weak.refl _
  exact ACalls.weaks (.cons (hw a) (.cons (hw b) .nil)) (same20_calls a b ha s)
end Go.Proofs.YtfjlmkifiihgkaaGreatDoor
namespace Go.Proofs.YtfjlmkifiihgkaaGreatDoor
open Go Go.AM Go.Proofs
variable {Γ : Nat→List AV}
theorem clone20V_calls (t : List NodeV) (ht : t.length≤2 ^ 30) (hw : ∀ n ∈ t,NodeW n) (s : AS) : ACalls Tryz.prog Γ 69 [treeV t] s (fun r s'=>r = treeV t∧s' = s):=by
  refine ACalls.settle (clone20_calls t ht hw s) ?_
  rintro r s1 ⟨TS,hT,hO⟩
  obtain ⟨s2,k1,k2⟩:=hO.settle (Γ:=Γ)
  rw [hT] at k1
  exact ⟨s,_,k1.trans (Settles.le _ k2),rfl,rfl⟩
end Go.Proofs.YtfjlmkifiihgkaaGreatDoor
namespace Go.Proofs.YtfjlmkifiihgkaaGreatDoor
open Go Go.AM Go.Proofs
variable {Γ : Nat→List AV}
theorem boolN : (false != false) = false∧(true != true) = false:=⟨rfl,rfl⟩
theorem tells20_calls (hG0 : Γ 0 = stC Sha.H0) (hG1 : Γ 1 = Sha.K.map wV) (hG : Γ 3 = dB64.map u8C) (t : List NodeV) (ht : TreeW t) (hl : t.length≤2 ^ 30) (hw : ∀ n ∈ t,NodeW n) (s : AS) :
  ACalls Tryz.prog Γ 15 [treeV t] s (fun r s'=>r = .v (.bool true)∧s' = s):=by
 have h1:=fun s=>refRight20_calls (Γ:=Γ) t ht s
 have h2:=fun s=>refLeaves_calls (Γ:=Γ) t ht.1 s
 have h3:=fun s=>right20_calls (Γ:=Γ) hG t ht s
 have h4:=fun s=>leaves20_calls (Γ:=Γ) hG t ht s
 have h5:=fun s=>members20_calls (Γ:=Γ) hG t ht s
 have h6:=fun s=>refMembers_calls (Γ:=Γ) t ht s
 have h7:=fun s=>alike_calls (Γ:=Γ) (membersT t) (membersT t) (by have:=lvs_le t; have:=memL_len t (lvs t); unfold membersT; split <;> simp <;> omega) s
 have h8:=fun s=>clone20V_calls (Γ:=Γ) t hl hw s
 have h9:=fun s=>same20_calls (Γ:=Γ) t t ht s
 have h10:=fun s=>root20_calls (Γ:=Γ) hG0 hG1 hG t ht s
 rw [decide_eq_true rfl] at h7 h9
 have hll : (((lvs t : Nat) : Int) != ((lvs t : Nat) : Int)) = false:=by simp
 refine acalls_body Tryz.func15 rfl Tryz.ntmps15 Tryz.results15 (by simp) ?_
 by_cases hr : rightT t
 ·have h11:=fun s=>refRoot20_calls (Γ:=Γ) t ht hr s
  have hrr : (RootT t == RootT t) = true:=by simp
  rw [decide_eq_true hr] at h1 h3
  rw [if_pos hr] at h4
  generalize RootT t = R at *
  generalize membersT t = M at *
  unfold treeV listV bytesV at *
  generalize rowC NodeV.cells t = X at *
  generalize rowC ListedV.cells M = MX at *
  refine jA ?_
  refine jK (h1 _) ?_;rintro s1 rfl
  refine jA ?_
  refine wK fun K hK=>?_
  refine jA ?_
  refine jE ?_
  refine jL (h2 _) ?_;rintro s2 rfl
  refine hK _ _ ?_;clear hK K
  refine wK fun K hK=>?_
  refine jQ fun K hK=>?_
  refine acallk (h3 _) ?_
  rintro r s3 ⟨rfl,rfl⟩
  simp only [↓DM,pval,DX,Nz,↓DN,Qa,Qb,Qc,Qd,Qe,Qf,Qg,Qh,reduceCtorEq,↓reduceIte,Na,Nb,Nc,Nk,Nf,Ng,Nh,Za,Zb,Zc,TT,boolN]
  refine acallk (h4 _) ?_
  rintro r s4 ⟨rfl,rfl⟩
  simp only [↓DM,pval,DX,Nz,↓DN,Qa,Qb,Qc,Qd,Qe,Qf,Qg,Qh,reduceCtorEq,↓reduceIte,Na,Nb,Nc,Nk,Nf,Ng,Nh,Za,Zb,Zc,TT,hll]
  refine acallk (h5 _) ?_
  rintro r s5 ⟨rfl,rfl⟩
  simp only [↓DM,pval,DX,Nz,↓DN,Qa,Qb,Qc,Qd,Qe,Qf,Qg,Qh,reduceCtorEq,↓reduceIte,Na,Nb,Nc,Nk,Nf,Ng,Nh,Za,Zb,Zc,TT]
  refine acallk (h6 _) ?_
  rintro r s6 ⟨rfl,rfl⟩
  simp only [↓DM,pval,DX,Nz,↓DN,Qa,Qb,Qc,Qd,Qe,Qf,Qg,Qh,reduceCtorEq,↓reduceIte,Na,Nb,Nc,Nk,Nf,Ng,Nh,Za,Zb,Zc,TT]
  refine acallk (h7 _) ?_
  rintro r s7 ⟨rfl,rfl⟩
  simp only [↓DM,pval,DX,Nz,↓DN,Qa,Qb,Qc,Qd,Qe,Qf,Qg,Qh,reduceCtorEq,↓reduceIte,Na,Nb,Nc,Nk,Nf,Ng,Nh,Za,Zb,Zc,TT]
  refine acallk (h8 _) ?_
  rintro r s8 ⟨rfl,rfl⟩
  simp only [↓DM,pval,DX,Nz,↓DN,Qa,Qb,Qc,Qd,Qe,Qf,Qg,Qh,reduceCtorEq,↓reduceIte,Na,Nb,Nc,Nk,Nf,Ng,Nh,Za,Zb,Zc,TT]
  refine acallk (h9 _) ?_
  rintro r s9 ⟨rfl,rfl⟩
  refine jR hK ?_;clear hK K
  refine jF ?_
  refine awp_skip ?_
  refine hK _ _ ?_;clear hK K
  refine jK (h10 _) ?_;rintro s10 rfl
  refine awp_drw_seq T.mixed [5] (by kernel_rfl) ?_
  intro K hK
  simp only [↓DM,pval,DX,Nz,↓DN,Qa,Qb,Qc,Qd,Qe,Qf,Qg,Qh,reduceCtorEq,↓reduceIte,Na,Nb,Nc,Nk,Nf,Ng,Nh,Za,Zb,Zc,TT]
  refine acallk (h11 _) ?_
  rintro r s11 ⟨rfl,rfl⟩
  simp only [↓DM,pval,DX,Nz,↓DN,Qa,Qb,Qc,Qd,Qe,Qf,Qg,Qh,reduceCtorEq,↓reduceIte,Na,Nb,Nc,Nk,Nf,Ng,Nh,Za,Zb,Zc,TT,hrr,List.toList_toArray]
  refine hK _ _ ?_;clear hK K
  exact jJ
 ·have hm : membersT t = []:=if_neg hr
  have hR : RootT t = []:=by unfold RootT HashT; first | (rw [if_neg]; exact fun h=>hr h.1) | (rw [if_pos]; exact hr) | (simp [hr])
  have hz : ((0 : Int) != 0) = false:=rfl
  rw [hm] at h5 h6 h7
  rw [hR] at h10
  rw [decide_eq_false hr] at h1 h3
  rw [if_neg hr] at h4
  unfold treeV listV bytesV at *
  generalize rowC NodeV.cells t = X at *
  generalize rowC ListedV.cells [] = MX at *
  refine jA ?_
  refine jK (h1 _) ?_;rintro s1 rfl
  refine jA ?_
  refine wK fun K hK=>?_
  refine jA ?_
  refine jF ?_
  refine awp_skip ?_
  refine hK _ _ ?_;clear hK K
  refine wK fun K hK=>?_
  refine jQ fun K hK=>?_
  refine acallk (h3 _) ?_
  rintro r s3 ⟨rfl,rfl⟩
  simp only [↓DM,pval,DX,Nz,↓DN,Qa,Qb,Qc,Qd,Qe,Qf,Qg,Qh,reduceCtorEq,↓reduceIte,Na,Nb,Nc,Nk,Nf,Ng,Nh,Za,Zb,Zc,TT,boolN]
  refine acallk (h4 _) ?_
  rintro r s4 ⟨rfl,rfl⟩
  simp only [↓DM,pval,DX,Nz,↓DN,Qa,Qb,Qc,Qd,Qe,Qf,Qg,Qh,reduceCtorEq,↓reduceIte,Na,Nb,Nc,Nk,Nf,Ng,Nh,Za,Zb,Zc,TT,show ((((0 : Nat) : Int)) != 0) = false from rfl]
  refine acallk (h5 _) ?_
  rintro r s5 ⟨rfl,rfl⟩
  simp only [↓DM,pval,DX,Nz,↓DN,Qa,Qb,Qc,Qd,Qe,Qf,Qg,Qh,reduceCtorEq,↓reduceIte,Na,Nb,Nc,Nk,Nf,Ng,Nh,Za,Zb,Zc,TT]
  refine acallk (h6 _) ?_
  rintro r s6 ⟨rfl,rfl⟩
  simp only [↓DM,pval,DX,Nz,↓DN,Qa,Qb,Qc,Qd,Qe,Qf,Qg,Qh,reduceCtorEq,↓reduceIte,Na,Nb,Nc,Nk,Nf,Ng,Nh,Za,Zb,Zc,TT]
  refine acallk (h7 _) ?_
  rintro r s7 ⟨rfl,rfl⟩
  simp only [↓DM,pval,DX,Nz,↓DN,Qa,Qb,Qc,Qd,Qe,Qf,Qg,Qh,reduceCtorEq,↓reduceIte,Na,Nb,Nc,Nk,Nf,Ng,Nh,Za,Zb,Zc,TT]
  refine acallk (h8 _) ?_
  rintro r s8 ⟨rfl,rfl⟩
  simp only [↓DM,pval,DX,Nz,↓DN,Qa,Qb,Qc,Qd,Qe,Qf,Qg,Qh,reduceCtorEq,↓reduceIte,Na,Nb,Nc,Nk,Nf,Ng,Nh,Za,Zb,Zc,TT]
  refine acallk (h9 _) ?_
  rintro r s9 ⟨rfl,rfl⟩
  refine jR hK ?_;clear hK K
  refine jF ?_
  refine awp_skip ?_
  refine hK _ _ ?_;clear hK K
  refine jK (h10 _) ?_;rintro s10 rfl
  refine awp_drw_seq T.mixed [5] (by kernel_rfl) ?_
  intro K hK
  refine jV (Ai (show (((([] : List UInt8).length : Nat) : Int) == 0) = true from rfl) (show ((((0 : Nat) : Int)) == 0) = true from rfl)) hK ?_;clear hK K
  exact jJ
end Go.Proofs.YtfjlmkifiihgkaaGreatDoor
namespace Go.AM
namespace Kdf
variable (secret info : List UInt8)
def blk : Nat→List UInt8
  | 0=>[]
  | i + 1=>Mac.tag secret (blk i ++ info ++ [UInt8.ofNat (i + 1)])
def row : Nat→List UInt8
  | 0=>[]
  | i + 1=>row i ++ blk secret info (i + 1)
theorem blk_len (i : Nat) : (blk secret info (i + 1)).length = 32:=Mac.tag_len _ _
theorem row_len : ∀ i : Nat,(row secret info i).length = 32 * i
  | 0=>rfl
  | i + 1=>by rw [row,List.length_append,row_len i,blk_len]; omega
def rounds (n : Nat) : Nat:=(n + 31) / 32
def expand (n : Nat) : List UInt8:=(row secret info (rounds n)).take n
def ok (n : Int) : Bool:=decide (0≤n) && decide (n≤8160)
def get (n : Int) : List UInt8:=if ok n = true then expand secret info n.toNat else []
end Kdf
end Go.AM
namespace Go.AM
namespace Kdf
def mls : List UInt8:=[109,108,115,32]
def fits (l c : List UInt8) (n : Int) : Bool:=decide (l.length≤251) && decide (c.length≤65535) && decide (0≤n) && decide (n≤8160)
def text (l c : List UInt8) (n : Nat) : List UInt8:=be 2 n ++ (be 1 (mls ++ l).length ++ (mls ++ l)) ++ (be 2 c.length ++ c)
def label (secret l c : List UInt8) (n : Int) : List UInt8:=if fits l c n = true then expand secret (text l c n.toNat) n.toNat else []
def derive (secret l : List UInt8) : List UInt8:=label secret (l.take 251) [] 32
def pen (l c : List UInt8) (n : Int) : List UInt8 × Bool:=penText 2 c (penText 1 (mls ++ l) (penSmall 2 n ([],false)))
theorem text_len (k : Nat) (m : List UInt8) (st : List UInt8 × Bool) : (penText k m st).1.length≤st.1.length + k + m.length:=by
  have:=penSmall_len k (m.length : Int) st
  unfold penText penRaw
  split
  · omega
  · simp only [List.length_append]
    omega
end Kdf
end Go.AM
namespace Go.AM
namespace Sch
def epochW : List UInt8:=[101,112,111,99,104]
def welcomeW : List UInt8:=[119,101,108,99,111,109,101]
def exporterW : List UInt8:=[101,120,112,111,114,116,101,114]
def confirmW : List UInt8:=[99,111,110,102,105,114,109]
def memberW : List UInt8:=[109,101,109,98,101,114,115,104,105,112]
def initW : List UInt8:=[105,110,105,116]
def main (j : List UInt8) : List UInt8:=Mac.tag j (List.replicate 32 0)
def epoch (j c : List UInt8) : List UInt8:=Kdf.label (main j) epochW c 32
def of (j c : List UInt8) : List (List UInt8):=[j,Kdf.derive (main j) welcomeW,Kdf.derive (epoch j c) exporterW,Kdf.derive (epoch j c) confirmW,Kdf.derive (epoch j c) memberW,Kdf.derive (epoch j c) initW]
end Sch
end Go.AM
namespace Go.AM
namespace Aes
def dbl (a : UInt8) : UInt8:=(a <<< (1 : UInt8)) ^^^ ((27 : UInt8) &&& ((0 : UInt8) - (a >>> (7 : UInt8))))
def gm : Nat→UInt8→UInt8→UInt8→UInt8
  | 0,o,_,_=>o
  | f + 1,o,a,b=>gm f (o ^^^ (a &&& ((0 : UInt8) - (b &&& 1)))) (dbl a) (b >>> 1)
def pw : Nat→UInt8→UInt8→Nat→UInt8
  | 0,o,_,_=>o
  | f + 1,o,a,n=>pw f (if n % 2 = 1 then gm 8 0 o a else o) (gm 8 0 a a) (n / 2)
def inv (a : UInt8) : UInt8:=pw 8 1 a 254
def rot (x : UInt8) (i : Nat) : UInt8:=UInt8.ofNat (x.toNat * 2 ^ i) ||| UInt8.ofNat (x.toNat / 2 ^ (8 - i))
def boxP (x : UInt8) : Nat→UInt8
  | 0=>99 ^^^ x
  | k + 1=>boxP x k ^^^ rot x (k + 1)
def box (c : UInt8) : UInt8:=boxP (inv c) 4
def sb : List UInt8:=[99,124,119,123,242,107,111,197,48,1,103,43,254,215,171,118,202,130,201,125,250,89,71,240,173,212,162,175,156,164,114,192,183,253,147,38,54,63,247,204,52,165,229,241,113,216,49,21,4,199,35,195,24,150,5,154,7,18,128,226,235,39,178,117,9,131,44,26,27,110,90,160,82,59,214,179,41,227,47,132,83,209,0,237,32,252,177,91,106,203,190,57,74,76,88,207,208,239,170,251,67,77,51,133,69,249,2,127,80,60,159,168,81,163,64,143,146,157,56,245,188,182,218,33,16,255,243,210,205,12,19,236,95,151,68,23,196,167,126,61,100,93,25,115,96,129,79,220,34,42,144,136,70,238,184,20,222,94,11,219,224,50,58,10,73,6,36,92,194,211,172,98,145,149,228,121,231,200,55,109,141,213,78,169,108,86,244,234,101,122,174,8,186,120,37,46,28,166,180,198,232,221,116,31,75,189,139,138,112,62,181,102,72,3,246,14,97,53,87,185,134,193,29,158,225,248,152,17,105,217,142,148,155,30,135,233,206,85,40,223,140,161,137,13,191,230,66,104,65,153,45,15,176,84,187,22]
def S (x : UInt8) : UInt8:=sb.getD x.toNat 0
def pwr : Nat→UInt8
  | 0=>1
  | r + 1=>dbl (pwr r)
def nx (k : List UInt8) (p : UInt8) : List UInt8 :=
  match k with
  | [k0,k1,k2,k3,k4,k5,k6,k7,k8,k9,k10,k11,k12,k13,k14,k15] =>
    let a0:=(k0 ^^^ S k13) ^^^ p
    let a1:=k1 ^^^ S k14
    let a2:=k2 ^^^ S k15
    let a3:=k3 ^^^ S k12
    let b0:=k4 ^^^ a0
    let b1:=k5 ^^^ a1
    let b2:=k6 ^^^ a2
    let b3:=k7 ^^^ a3
    let c0:=k8 ^^^ b0
    let c1:=k9 ^^^ b1
    let c2:=k10 ^^^ b2
    let c3:=k11 ^^^ b3
    [a0,a1,a2,a3,b0,b1,b2,b3,c0,c1,c2,c3,k12 ^^^ c0,k13 ^^^ c1,k14 ^^^ c2,k15 ^^^ c3]
  | _=>[]
def kr (key : List UInt8) : Nat→List UInt8
  | 0=>key
  | r + 1=>nx (kr key r) (pwr r)
def ak (key : List UInt8) (n : Nat) : UInt8:=(kr key (n / 16)).getD (n % 16) 0
def sh (b : List UInt8) (n : Nat) : UInt8:=S (b.getD (4 * ((n / 4 + n % 4) % 4) + n % 4) 0)
def mx (c : Nat→UInt8) (i : Nat) : UInt8:=(((dbl (c i) ^^^ dbl (c ((i + 1) % 4))) ^^^ c ((i + 1) % 4)) ^^^ c ((i + 2) % 4)) ^^^ c ((i + 3) % 4)
def rnd (b : List UInt8) (last : Bool) : List UInt8:=(List.range 16).map fun n=>if last then sh b n else mx (fun i=>sh b (4 * (n / 4) + i)) (n % 4)
def add (b k : List UInt8) : List UInt8:=(List.range 16).map fun n=>b.getD n 0 ^^^ k.getD n 0
def state (key b : List UInt8) : Nat→List UInt8
  | 0=>add b (kr key 0)
  | r + 1=>add (rnd (state key b r) (r + 1 == 10)) (kr key (r + 1))
def block (key b : List UInt8) : List UInt8:=state key b 10
def first (nonce : List UInt8) : Nat:=beNat (nonce.drop 12)
def ctr (nonce : List UInt8) (i : Nat) : List UInt8:=nonce.take 12 ++ be 4 ((first nonce + i) % 4294967296)
def maskB (key nonce : List UInt8) (p : Nat) : UInt8:=(block (key.take 16) (ctr nonce (p / 16))).getD (p % 16) 0
def mask (key nonce text : List UInt8) : List UInt8:=(List.range text.length).map fun p=>text.getD p 0 ^^^ maskB key nonce p
def tag (key nonce beside masked : List UInt8) : List UInt8:=(Mac.tag (key.drop 16) (be 4 beside.length ++ (beside ++ (nonce ++ masked)))).take 16
theorem tag_len (key nonce beside masked : List UInt8) : (tag key nonce beside masked).length = 16:=by simp [tag,Mac.tag_len]
end Aes
end Go.AM
namespace Go.AM
namespace Vault
def k0 : List UInt8:=[169,244,63,67,64,52,17,249,117,86,100,57,122,167,125,1,230,91,103,131,115,144,199,68,248,159,166,218,250,248,1,114,135,15,162,208,108,252,211,18,83,148,90,178,179,251,67,14]
def n3 : List UInt8:=[8,190,219,198,217,21,206,227,25,6,89,27,186,224,186,54]
def n4 : List UInt8:=[184,102,163,253,77,158,128,5,108,65,104,250,253,115,180,138]
def m3 : List UInt8:=[247,169,26,226,24,129,224,169,173,123,5,148,71,154,82,74,108,148,179,118,179,215,27,211,244,97,172,107,233,136,76,169]
def t3 : List UInt8:=[8,206,240,108,85,27,1,138,119,108,80,208,57,159,143,149]
end Vault
end Go.AM
namespace Go.AM
open Go
theorem IsTy.record {avs : List AV} (h : IsTy (.struct (.cons tyI (.cons tyB (.cons tyI (.cons tyI (.cons tyI (.cons tyB (.cons tyB (.cons tyB (.cons tyB .nil)))))))))) avs) : ∃ R : Rec,avs = R.cells:=by
  obtain ⟨x1,y1,rfl,t1,h⟩:=isF_cons (isTy_struct h)
  obtain ⟨x2,y2,rfl,t2,h⟩:=isF_cons h
  obtain ⟨x3,y3,rfl,t3,h⟩:=isF_cons h
  obtain ⟨x4,y4,rfl,t4,h⟩:=isF_cons h
  obtain ⟨x5,y5,rfl,t5,h⟩:=isF_cons h
  obtain ⟨x6,y6,rfl,t6,h⟩:=isF_cons h
  obtain ⟨x7,y7,rfl,t7,h⟩:=isF_cons h
  obtain ⟨x8,y8,rfl,t8,h⟩:=isF_cons h
  obtain ⟨x9,y9,rfl,t9,h⟩:=isF_cons h
  obtain rfl:=isF_nil h
  obtain ⟨n1,rfl,_⟩:=isTy_int t1
  obtain ⟨l2,rfl,_⟩:=t2.bytes
  obtain ⟨n3,rfl,_⟩:=isTy_int t3
  obtain ⟨n4,rfl,_⟩:=isTy_int t4
  obtain ⟨n5,rfl,_⟩:=isTy_int t5
  obtain ⟨l6,rfl,_⟩:=t6.bytes
  obtain ⟨l7,rfl,_⟩:=t7.bytes
  obtain ⟨l8,rfl,_⟩:=t8.bytes
  obtain ⟨l9,rfl,_⟩:=t9.bytes
  exact ⟨⟨n1,l2,n3,n4,n5,l6,l7,l8,l9⟩,rfl⟩
end Go.AM
namespace Go.AM
open Go
def smallX (l : List (List UInt8)) : Prop:=l.length≤12∧∀ b ∈ l,b.length≤4000
instance (l : List (List UInt8)) : Decidable (smallX l):=by unfold smallX; infer_instance
end Go.AM
namespace Go.AM
open Go
theorem IsTy.tree {avs : List AV} (h : IsTy (.slice 5 (.struct (.cons tyI (.cons tyB (.cons (.int .u64) (.cons tyB (.cons (.slice 1 tyI) .nil))))))) avs) : ∃ t : List NodeV,avs = [treeV t]∧∀ n ∈ t,n.key < 2 ^ 64:=by
  obtain ⟨els,rfl,_,hall⟩:=IsTy.rows h
  have key : ∀ els : List (List AV),(∀ el ∈ els,el.length = 5∧IsTy (.struct (.cons tyI (.cons tyB (.cons (.int .u64) (.cons tyB (.cons (.slice 1 tyI) .nil)))))) el)→∃ t : List NodeV,els = t.map NodeV.cells∧∀ n ∈ t,n.key < 2 ^ 64:=by
    intro els
    induction els with
    | nil=>intro _; exact ⟨[],rfl,fun n hn=>by cases hn⟩
    | cons e els ih =>
      intro h
      obtain ⟨t,rfl,h2⟩:=ih (fun el hel=>h el (by simp [hel]))
      obtain ⟨_,h1⟩:=h e (by simp)
      obtain ⟨N,rfl,hN⟩:=IsTy.node h1
      refine ⟨N :: t,rfl,fun n hn=>?_⟩
      rcases List.mem_cons.1 hn with rfl | hn
      · exact hN
      · exact h2 n hn
  obtain ⟨t,rfl,h2⟩:=key els hall
  refine ⟨t,?_,h2⟩
  unfold treeV rowC
  rw [List.length_map]
end Go.AM
namespace Go.AM
open Go
structure ActV where
  kind : Int
  leaf : Int
  name : List UInt8
  key : Nat
def ActV.cells (a : ActV) : List AV:=[.v (.int .i64 a.kind),.v (.int .i64 a.leaf),bytesV a.name .any,.v (.int .u64 a.key)]
def actsV (l : List ActV) : AV:=.sl 4 l.length (rowC ActV.cells l) .any
theorem act_at {l : List ActV} {i : Nat} (h : i < l.length) : List.take 4 (List.drop (i * 4) (rowC ActV.cells l)) = (l[i]).cells:=row_at (k:=4) (fun _=>rfl) h
theorem IsTy.act {avs : List AV} (h : IsTy (.struct (.cons tyI (.cons tyI (.cons tyB (.cons (.int .u64) .nil))))) avs) : ∃ a : ActV,avs = a.cells∧a.key < 2 ^ 64:=by
  obtain ⟨x1,y1,rfl,t1,h⟩:=isF_cons (isTy_struct h)
  obtain ⟨x2,y2,rfl,t2,h⟩:=isF_cons h
  obtain ⟨x3,y3,rfl,t3,h⟩:=isF_cons h
  obtain ⟨x4,y4,rfl,t4,h⟩:=isF_cons h
  obtain rfl:=isF_nil h
  obtain ⟨n1,rfl,_⟩:=isTy_int t1
  obtain ⟨n2,rfl,_⟩:=isTy_int t2
  obtain ⟨l3,rfl,_⟩:=t3.bytes
  obtain ⟨n4,rfl,w4⟩:=isTy_int t4
  obtain ⟨m4,rfl,h4⟩:=nat_u64 w4
  exact ⟨⟨n1,n2,l3,m4⟩,rfl,h4⟩
theorem IsTy.acts {avs : List AV} (h : IsTy (.slice 4 (.struct (.cons tyI (.cons tyI (.cons tyB (.cons (.int .u64) .nil)))))) avs) : ∃ l : List ActV,avs = [actsV l]∧∀ a ∈ l,a.key < 2 ^ 64:=by
  obtain ⟨els,rfl,_,hall⟩:=IsTy.rows h
  have key : ∀ els : List (List AV),(∀ el ∈ els,el.length = 4∧IsTy (.struct (.cons tyI (.cons tyI (.cons tyB (.cons (.int .u64) .nil))))) el)→∃ l : List ActV,els = l.map ActV.cells∧∀ a ∈ l,a.key < 2 ^ 64:=by
    intro els
    induction els with
    | nil=>intro _; exact ⟨[],rfl,fun a ha=>by cases ha⟩
    | cons e els ih =>
      intro h
      obtain ⟨l,rfl,hl⟩:=ih (fun el hel=>h el (by simp [hel]))
      obtain ⟨_,h1⟩:=h e (by simp)
      obtain ⟨a,rfl,ha⟩:=IsTy.act h1
      exact ⟨a :: l,rfl,fun x hx=>by rcases List.mem_cons.1 hx with rfl | hx; exact ha; exact hl x hx⟩
  obtain ⟨l,rfl,hl⟩:=key els hall
  refine ⟨l,?_,hl⟩
  unfold actsV rowC
  rw [List.length_map]
theorem fold_key {n : NodeV} (h : n.right) : n.key < 2 ^ 64:=by
  rcases node_kind h with hk | hk | hk
  · rw [(right_zero hk).1 h]; decide
  · have:=((right_one hk).1 h).2.2.1.2.1; omega
  · have:=((right_two hk).1 h).2.1.2.1; omega
theorem fold_W {t : List NodeV} (h : rightT t) : TreeW t:=by
  have hl:=h.len
  have:=hl.2.le
  refine ⟨by omega,fun n hn=>⟨by have:=(right_small (h.nodes hn)).2.2; omega,fold_key (h.nodes hn)⟩⟩
theorem right_ne {t : List NodeV} (h : rightT t) : t.length≠0:=by
  have:=h.len
  have:=this.2.le
  omega
end Go.AM
namespace Go.AM
open Go
theorem step_add (t : List NodeV) (name : List UInt8) (key : Nat) : ((addR t name key).1 = []∧(addR t name key).2.2≠0)∨(rightT (addR t name key).1∧(addR t name key).2.2 = 0):=by
  unfold addR
  by_cases h0 : rightT t
  · rw [if_neg (fun h=>h h0)]
    by_cases h1 : (leafN name key).right
    · rw [if_neg (fun h=>h h1)]
      by_cases h2 : 0≤namedI t name 0
      · rw [if_pos h2]; exact .inl ⟨rfl,by decide⟩
      · rw [if_neg h2]
        by_cases h3 : freeT t = 32
        · rw [if_pos h3]; exact .inl ⟨rfl,by decide⟩
        · rw [if_neg h3]
          exact .inr ⟨addAt_right h0 h1 rfl h2 h3,rfl⟩
    · rw [if_pos h1]; exact .inl ⟨rfl,by decide⟩
  · rw [if_pos h0]; exact .inl ⟨rfl,by decide⟩
theorem step_upd (t : List NodeV) (leaf : Int) (key : Nat) : ((updR t leaf key).1 = []∧(updR t leaf key).2≠0)∨(rightT (updR t leaf key).1∧(updR t leaf key).2 = 0):=by
  unfold updR
  by_cases h0 : rightT t
  · rw [if_neg (fun h=>h h0)]
    by_cases h1 : memI t leaf
    · rw [if_neg (fun h=>h h1)]
      by_cases h2 : keyR key
      · rw [if_neg (fun h=>h h2)]
        obtain ⟨l,rfl⟩:=Int.eq_ofNat_of_zero_le h1.1
        rw [Int.toNat_natCast]
        have hr1:=(right_one ((memN_iff rfl _).1 h1).2).1 (h0.nd _)
        exact .inr ⟨updT_right h0 h1 (leafN_name.2 ⟨hr1.1,hr1.2.1,h2⟩),rfl⟩
      · rw [if_pos h2]; exact .inl ⟨rfl,by decide⟩
    · rw [if_pos h1]; exact .inl ⟨rfl,by decide⟩
  · rw [if_pos h0]; exact .inl ⟨rfl,by decide⟩
theorem step_rm (t : List NodeV) (leaf : Int) : ((remR t leaf).1 = []∧(remR t leaf).2≠0)∨(rightT (remR t leaf).1∧(remR t leaf).2 = 0):=by
  unfold remR
  by_cases h0 : rightT t
  · rw [if_neg (fun h=>h h0)]
    by_cases h1 : memI t leaf
    · rw [if_neg (fun h=>h h1)]
      by_cases h2 : cntN (memI t) 0 (lvs t) = 1
      · rw [if_pos h2]; exact .inl ⟨rfl,by decide⟩
      · rw [if_neg h2]
        obtain ⟨l,rfl⟩:=Int.eq_ofNat_of_zero_le h1.1
        rw [Int.toNat_natCast]
        exact .inr ⟨rmT_right h0 ((memN_iff rfl _).1 h1).1,rfl⟩
    · rw [if_pos h1]; exact .inl ⟨rfl,by decide⟩
  · rw [if_pos h0]; exact .inl ⟨rfl,by decide⟩
def StepOk (t T : List NodeV) (f : Int) (k : Nat) : Prop:=TreeW T∧(f = 0→rightT T∨(T = t∧k = 3))
theorem fold_nilW : TreeW []:=⟨by simp,fun n hn=>by cases hn⟩
theorem StepOk.of {t T : List NodeV} {f : Int} {k : Nat} (h : (T = []∧f≠0)∨(rightT T∧f = 0)) : StepOk t T f k:=by
  rcases h with ⟨rfl,h⟩ | ⟨h1,h2⟩
  · exact ⟨fold_nilW,fun e=>absurd e h⟩
  · exact ⟨fold_W h1,fun _=>.inl h1⟩
end Go.AM
namespace Go.Proofs.YtfjlmkifiihgkaaGreatDoor
open Go Go.AM Go.Proofs
variable {Γ : Nat→List AV}
theorem rest20_range (a n : Int) (hn : 0 < n) (hn2 : n≤2 ^ 61) : ∃ k : Nat,irem (iadd .i64 (irem a n) n) n = (k : Int)∧(k : Int) < n:=by
 have h1 : a.tmod n < n:=Int.tmod_lt_of_pos a hn
 have h2 : -n < a.tmod n:=by
  have h:=Int.natAbs_tmod a n
  have:=Nat.mod_lt a.natAbs (show 0 < n.natAbs by omega)
  omega
 unfold irem
 rw [iadd_i64 (by omega)]
 have h3 : 0≤a.tmod n + n:=by omega
 have h4:=Int.tmod_lt_of_pos (a.tmod n + n) hn
 have h5:=Int.tmod_nonneg n h3
 exact ⟨((a.tmod n + n).tmod n).toNat,by omega,by omega⟩
theorem step3G_calls (hG : Γ 3 = dB64.map u8C) (t : List NodeV) (ht : TreeW t) (a : ActV) (k : Nat) (hk : k < 3) (hrest : ∀ s,ACalls Tryz.prog Γ 23 [.v (.int .i64 a.kind),.v (.int .i64 4)] s (fun r s'=>r = .v (.int .i64 (k : Nat))∧s' = s)) (hn : a.name.length≤40) (s : AS) :
  ACalls Tryz.prog Γ 14 [treeV t,.agg a.cells] s (fun r s'=>∃ (T : List NodeV) (f : Int),r = .tup [treeN T,treeN T,.v (.int .i64 f),.v (.int .i64 f),.v (.bool true)]∧s' = s∧((T = []∧f≠0)∨(rightT T∧f = 0))):=by
 obtain ⟨ak,al,an,ay⟩:=a
 simp only at hrest hn
 refine acalls_body Tryz.func14 rfl Tryz.ntmps14 Tryz.results14 (by simp) ?_
 have h1:=fun s=>ACalls.tidy (add20_calls (Γ:=Γ) hG t ht an ay (by omega) s)
 have h2:=fun s=>ACalls.tidy (refAdd20_calls (Γ:=Γ) t ht an ay (by omega) s)
 have h3:=fun s=>ACalls.tidy (update20_calls (Γ:=Γ) hG t ht al ay s)
 have h4:=fun s=>refUpdate20_calls (Γ:=Γ) t ht al ay s
 have h5:=fun s=>ACalls.tidy (remove20_calls (Γ:=Γ) hG t ht al s)
 have h6:=fun s=>refRemove20_calls (Γ:=Γ) t ht al s
 have q1:=step_add t an ay
 have q2:=step_upd t al ay
 have q3:=step_rm t al
 have hii : ((((addR t an ay).2.1 : Nat) : Int) == (((addR t an ay).2.1 : Nat) : Int)) = true:=by simp
 unfold ActV.cells
 generalize hA : (addR t an ay).1 = A at *
 generalize (addR t an ay).2.1 = Ai at *
 generalize (addR t an ay).2.2 = Ae at *
 generalize (updR t al ay).1 = U at *
 generalize (updR t al ay).2 = Ue at *
 generalize (remR t al).1 = R at *
 generalize (remR t al).2 = Re at *
 clear hA
 unfold treeV bytesV at *
 generalize rowC NodeV.cells t = X at *
 refine awp_reg_frz 3 (by decide) ?_
 intro K hK
 simp only [↓DM,pval,DX,Nz,↓DN,Qa,Qb,Qc,Qd,Qe,Qf,Qg,Qh,reduceCtorEq,↓reduceIte,Na,Nb,Nc,Nk,Nf,Ng,Nh,Za,Zb,Zc,TT]
 intro o ho
 refine hK _ _ o _ (by simp only [upd,Nc,↓reduceIte]) ho ?_
 clear hK K ho
 refine wK fun K hK=>?_
 refine jK (hrest _) ?_;rintro s1 rfl
 refine awp_block ?_
 obtain rfl | rfl | rfl : k = 0∨k = 1∨k = 2:=by omega
 ·refine jB (show (((0 : Nat) : Int) == 0) = true from rfl) ?_
  refine jE ?_
  refine jK (h1 _) ?_;rintro s2 rfl
  refine jK (h2 _) ?_;rintro s3 rfl
  refine jB @hii ?_
  refine jI ?_
  exact ⟨_,_,AV.weak.refl _,AS.le.refl _,A,Ae,rfl,rfl,q1⟩
 ·refine jB (show (((1 : Nat) : Int) == 0) = false from rfl) ?_
  refine jF ?_
  refine jB (show (((1 : Nat) : Int) == 1) = true from rfl) ?_
  refine jE ?_
  refine jK (h3 _) ?_;rintro s2 rfl
  refine jK (h4 _) ?_;rintro s3 rfl
  refine jA ?_
  refine jI ?_
  exact ⟨_,_,AV.weak.refl _,AS.le.refl _,U,Ue,rfl,rfl,q2⟩
 ·refine jB (show (((2 : Nat) : Int) == 0) = false from rfl) ?_
  refine jF ?_
  refine jB (show (((2 : Nat) : Int) == 1) = false from rfl) ?_
  refine jF ?_
  refine jB (show (((2 : Nat) : Int) == 2) = true from rfl) ?_
  refine jE ?_
  refine jK (h5 _) ?_;rintro s2 rfl
  refine jK (h6 _) ?_;rintro s3 rfl
  refine jA ?_
  refine jI ?_
  exact ⟨_,_,AV.weak.refl _,AS.le.refl _,R,Re,rfl,rfl,q3⟩
end Go.Proofs.YtfjlmkifiihgkaaGreatDoor
namespace Go.AM
open Go
variable {Γ : Nat→List AV} {s s' : AS}
theorem view_bytes (l : List UInt8) : View Γ s (bytesV l .any) (bytesV l .any):=View.sl2 (Views.flat fun c hc=>by
  obtain ⟨x,_,rfl⟩:=List.mem_map.1 hc
  exact ⟨_,rfl⟩)
theorem view_ints (l : List Int) : View Γ s (intsV l .any) (intsV l .any):=View.sl2 (Views.flat fun c hc=>by
  obtain ⟨x,_,rfl⟩:=List.mem_map.1 hc
  exact ⟨_,rfl⟩)
theorem views_node (n : NodeV) : Views Γ s n.cells n.cells:=.cons .val (.cons (view_bytes _) (.cons .val (.cons (view_bytes _) (.cons (view_ints _) .nil))))
theorem views_nodes : ∀ t : List NodeV,Views Γ s (rowC NodeV.cells t) (rowC NodeV.cells t)
  | []=>.nil
  | n :: t=>by
    have:=(views_node (Γ:=Γ) (s:=s) n).append (views_nodes t)
    simpa [rowC] using this
theorem view_tree {ob cap : Nat} {t : List NodeV} {rest : List AV} (h : s.objs ob = some (rowC NodeV.cells t ++ rest)) : View Γ s (.osl ob 0 5 t.length cap) (treeV t) :=
  View.osl2 h (row_len cells_len t) (views_nodes t)
theorem Settles.tup2 {o off sz n cap : Nat} {y : AV} (vs : List AV) (h : Settles Γ s (.osl o off sz n cap) s' y) : Settles Γ s (.tup (.osl o off sz n cap :: .osl o off sz n cap :: vs)) s' (.tup (y :: y :: vs)):=by
  intro G w u hs hv
  simp only [VRel] at hv
  obtain ⟨us,rfl,hvs⟩:=hv
  simp only [VRels] at hvs
  obtain ⟨u0,us',rfl,h1,u1,us'',rfl,h2,h3⟩:=hvs
  have e : u1 = u0:=by
    simp only [VRel] at h1 h2
    obtain ⟨b,b1,b2,_⟩:=h1
    obtain ⟨c,c1,c2,_⟩:=h2
    rw [b1] at c1
    cases c1
    rw [b2,c2]
  subst e
  obtain ⟨G',k1,k2,k3⟩:=h G w u1 hs h1
  exact ⟨G',k1,k2,by simp only [VRel,VRels]; exact ⟨_,rfl,u1,_,rfl,k3,u1,us'',rfl,k3,VRels.mono k1 _ _ h3⟩⟩
theorem AVs.weak_refl (l : List AV) : AVs.weak l l:=fun _ _ h=>h
theorem weak_setC {t : List NodeV} {u : Nat} (h : u < t.length) (n : NodeV) {raw : List AV} (hraw : AVs.weak raw n.cells) (hl : raw.length = 5) (rest : List AV) :
    AVs.weak (asetAll (rowC NodeV.cells t ++ rest) (u * 5) raw) (rowC NodeV.cells (t.set u n) ++ rest):=by
  have hk : ∀ n : NodeV,n.cells.length = 5:=cells_len
  rw [← row_setC (c:=NodeV.cells) hk h n rest]
  have hL : (rowC NodeV.cells t ++ rest).length = t.length * 5 + rest.length:=by rw [List.length_append,row_len hk]
  rw [Mac.asetAll_front _ _ _ (by rw [hl,hL]; omega),Mac.asetAll_front _ _ _ (by rw [hk,hL]; omega),hl,hk]
  exact (AVs.weak.append (AVs.weak.append (AVs.weak_refl _) hraw) (AVs.weak_refl _))
theorem new_right {name : List UInt8} {key : Nat} (h : (leafN name key).right) : rightT [leafN name key]:=by
  have hl : lvs [leafN name key] = 1:=by unfold lvs; simp [Fit]
  refine ⟨by rw [hl]; decide,fun i hi=>?_,.inl hl⟩
  have hi0 : i = 0:=by simp at hi; omega
  subst hi0
  refine ⟨⟨h,.inr ⟨fun _=>rfl,fun _=>rfl⟩,fun u hu=>by cases hu⟩,fun _ _ j hj hj'=>?_⟩
  have : hlf [leafN name key] = 1:=by unfold hlf; simp
  omega
end Go.AM
namespace Go.Proofs.YtfjlmkifiihgkaaGreatDoor
open Go Go.AM Go.Proofs
variable {Γ : Nat→List AV}
theorem restIs_calls (a n k : Int) (hk : irem (iadd .i64 (irem a n) n) n = k) (hn0 : ¬ n = 0) (s : AS) :
  ACalls Tryz.prog Γ 23 [.v (.int .i64 a),.v (.int .i64 n)] s (fun r s'=>r = .v (.int .i64 k)∧s' = s):=by
 refine acalls_body Tryz.func23 rfl Tryz.ntmps23 Tryz.results23 (by simp) ?_
 refine jA ?_
 refine jB (Ai @hn0 @hk) ?_
 exact jJ
def branchN (key : Nat) : NodeV:=⟨2,[],key,List.replicate 32 0,[]⟩
theorem stepB_calls (t : List NodeV) (hr : rightT t) (a : ActV) (hy : a.key < 2 ^ 64) (hk : ∀ s,ACalls Tryz.prog Γ 23 [.v (.int .i64 a.kind),.v (.int .i64 4)] s (fun r s'=>r = .v (.int .i64 3)∧s' = s)) (s : AS) :
  ACalls Tryz.prog Γ 14 [treeV t,.agg a.cells] s (fun r s'=>∃ (T : List NodeV) (f : Int),r = .tup [treeV T,treeV T,.v (.int .i64 f),.v (.int .i64 f),.v (.bool true)]∧s' = s∧(rightT T∧f = 0)):=by
 obtain ⟨ak,al,an,ay⟩:=a
 simp only at hk hy
 have hW:=fold_W hr
 have hL:=hr.len
 have hlv:=lvs_le t
 have hpos:=hL.2.le
 have hone:=row_ones t
 have hrl : (rowC NodeV.cells t).length = t.length * 5:=Go.AM.row_len (c:=NodeV.cells) cells_len t
 have h0:=right_ne hr
 refine ACalls.settle (Q:=fun r s'=>∃ s2 r2,Settles Γ s' r s2 r2∧∃ (T : List NodeV) (f : Int),r2 = .tup [treeV T,treeV T,.v (.int .i64 f),.v (.int .i64 f),.v (.bool true)]∧s2 = s∧(rightT T∧f = 0)) ?_ (fun r s1 h=>h)
 refine acalls_body Tryz.func14 rfl Tryz.ntmps14 Tryz.results14 (by simp) ?_
 unfold ActV.cells
 unfold treeV bytesV at *
 generalize hX : rowC NodeV.cells t = X at *
 refine awp_reg_frz 3 (by decide) ?_
 intro K hK
 simp only [↓DM,pval,DX,Nz,↓DN,Qa,Qb,Qc,Qd,Qe,Qf,Qg,Qh,reduceCtorEq,↓reduceIte,Na,Nb,Nc,Nk,Nf,Ng,Nh,Za,Zb,Zc,TT]
 intro o ho
 refine hK _ _ o _ (by simp only [upd,Nc,↓reduceIte]) ho ?_
 clear hK K ho
 refine wK fun K hK=>?_
 refine jK (hk _) ?_;rintro s1 rfl
 refine awp_block ?_
 refine jB (show ((3 : Int) == 0) = false from rfl) ?_
 refine jF ?_
 refine jB (show ((3 : Int) == 1) = false from rfl) ?_
 refine jF ?_
 refine jB (show ((3 : Int) == 2) = false from rfl) ?_
 refine jF ?_
 refine awp_skip ?_
 refine hK _ _ ?_;clear hK K
 refine awp_reg_at2 rfl (by decide) ?_
 intro ops
 simp only [↓DM,pval,DX,Nz,↓DN,Qa,Qb,Qc,Qd,Qe,Qf,Qg,Qh,reduceCtorEq,↓reduceIte,Na,Nb,Nc,Nk,Nf,Ng,Nh,Za,Zb,Zc,TT]
 refine ⟨_,fun G a w hr=>append_own_res (n:=0) (m:=t.length) (cs:=[]) (ds:=X) (e:=69) rfl Tryz.underlying26 (by simp only [↓DN,Qa,Qb,Qc,Qd,Qe,Qf,Qg,Qh,reduceCtorEq,↓reduceIte,Na,Nb,Nc,Nk,Nf,Ng,Nh,Za,Zb,Zc,TT]; try rfl) T.z69 (by rw [T.c69]; decide) (by rw [T.c69]; rfl) (by rw [T.c69]; simp only [↓DN,Qa,Qb,Qc,Qd,Qe,Qf,Qg,Qh,reduceCtorEq,↓reduceIte,Na,Nb,Nc,Nk,Nf,Ng,Nh,Za,Zb,Zc,TT,asrc,aeval,upd,Nc,↓reduceIte]) h0 (by rw [T.b69]; omega) (by omega) hone (by rw [T.c69]; exact .inl ⟨rfl,rfl,.inr (.inr rfl)⟩) hr.eval hr.st,?_⟩
 rw [T.c69]
 rintro r s2 ⟨ob,cap,rest,rfl,hcap,h63,hrest,hob,rfl⟩
 have hob : s1.objs ob = none:=by
  rcases hob with h | ⟨_,h⟩
  ·exact h
  ·simp [aeval,upd] at h
 simp only [↓DM,pval,DX,Nz,↓DN,Qa,Qb,Qc,Qd,Qe,Qf,Qg,Qh,reduceCtorEq,↓reduceIte,Na,Nb,Nc,Nk,Nf,Ng,Nh,Za,Zb,Zc,TT]
 rw [Nat.zero_add] at *
 have hone1 : rightT t→1≤t.length:=fun _=>by omega
 refine wK fun K hK=>?_
 -- what is shown of whatever row it has become
 have hend : ∀ (E : Env) (u : List NodeV) (s8 : AS),AS.tells Γ s8 (s1.set ob (rowC NodeV.cells u ++ rest))→u.length = t.length→TreeW u→E 0 = .sl 5 t.length X .any→E 23 = .osl ob 0 5 t.length cap→K E s8:=by
  intro E u s8 hts hul huW g0 g23
  refine hK _ _ ?_;clear hK K
  refine awp_tells hts ?_
  clear hts s8
  have hv : View Γ (s1.set ob (rowC NodeV.cells u ++ rest)) (.osl ob 0 5 t.length cap) (treeV u):=by
   rw [← hul]
   exact view_tree (AS.set_objs_same _ _ _)
  have hru:=ACalls.view ((refRight20_calls (Γ:=Γ0) u huW s0).mono fun r s' h=>h.1) (.cons hv .nil)
  have hset:=Settles.tree (Γ:=Γ) (t:=u) (cap:=cap) (rest:=rest) hob
  rw [hul] at hset
  have hle : s1.le (s1.set ob (rowC NodeV.cells u ++ rest)):=AS.le_set (AS.le.refl _) hob _
  generalize s1.set ob (rowC NodeV.cells u ++ rest) = s9 at *
  by_cases hr9 : rightT u
  ·rw [decide_eq_true hr9] at hru
   refine wK fun K hK=>?_
   refine jS @g23 fun K hK=>?_
   refine acallk hru ?_
   rintro r s10 ⟨rfl,rfl⟩
   refine jR hK ?_;clear hK K
   refine jF ?_
   refine awp_skip ?_
   refine hK _ _ ?_;clear hK K
   refine jB @g23 ?_
   refine jI ?_
   exact ⟨_,_,AV.weak.refl _,AS.le.refl _,s1,_,Settles.tup2 _ hset,u,0,rfl,rfl,hr9,rfl⟩
  ·rw [decide_eq_false hr9] at hru
   refine wK fun K hK=>?_
   refine jS @g23 fun K hK=>?_
   refine acallk hru ?_
   rintro r s10 ⟨rfl,rfl⟩
   refine jR hK ?_;clear hK K
   refine jE ?_
   refine jB @g0 ?_
   refine jI ?_
   exact ⟨_,_,AV.weak.refl _,AS.le.refl _,s1,_,Settles.le _ hle,t,0,by rw [hX],rfl,hr,rfl⟩
 clear hK
 by_cases hl1 : 1 < t.length
 ·refine jB (decide_eq_true (show (1 : Int) < (t.length : Int) by omega)) ?_
  refine jE ?_
  obtain ⟨k,hk1,hk2⟩:=rest20_range al ((t.length / 2 : Nat) : Int) (by omega) (by omega)
  have hrs : ∀ s : AS,ACalls Tryz.prog Γ 23 [.v (.int .i64 al),.v (.int .i64 ((t.length / 2 : Nat) : Int))] s (fun r s'=>r = .v (.int .i64 k)∧s' = s):=fun s=>restIs_calls al _ k hk1 (by omega) s
  have hq : iquo .i64 (t.length : Int) 2 = ((t.length / 2 : Nat) : Int):=iquo_two t.length (by omega)
  have e2k:=imul2_nat k (by omega)
  have e1k : iadd .i64 1 ((2 * k : Nat) : Int) = ((1 + 2 * k : Nat) : Int):=by rw [iadd_i64 (by omega)]; omega
  have hge : (0 : Int)≤((1 + 2 * k : Nat) : Int):=by omega
  have hlt : 1 + 2 * k < t.length:=by omega
  have hobj : (s1.set ob (X ++ rest)).objs ob = some (X ++ rest):=AS.set_objs_same _ _ _
  have hRl : (X ++ rest).length = X.length + rest.length:=List.length_append
  have hhrep : ∀ x : AV,List.replicate 1 x = [x]:=fun _=>rfl
  have two0 : ((2 : Int) = 0) = False:=by simp
  refine awp_drf_end T.mixed [14] [(11,32)] [(6,.v (.int .i64 k))] [] (by kernel_rfl) ?_
  intro K hK
  simp only [↓AXz_nil,↓AXz_cons,↓AGiv_call,glook_nil,glook_cons,glookN_nil,glookN_cons,noughtV,pval,DX,Nat.reduceBEq,List.toList_toArray,List.map_cons,List.map_nil,aeval,↓DN,Qa,Qb,Qc,Qd,Qe,Qf,Qg,Qh,reduceCtorEq,↓reduceIte,Na,Nb,Nc,Nk,Nf,Ng,Nh,Za,Zb,Zc,TT,hq,e2k,e1k,hge,hlt,hobj,hhrep,eye_lt_nat,two0]
  refine agivk hrs ?_
  refine ⟨by rw [hrl]; omega,hK _ _ ?_⟩
  clear hK K
  have hws:=weak_setC (t:=t) (u:=1 + 2 * k) hlt (branchN ay) (raw:=[.v (.int .i64 2),.v (.slice none 0 0),.v (.int .u64 ay),.sl 1 32 (List.replicate 32 (AV.v (.int .u8 0))) .no,.v (.slice none 0 0)]) (.cons (AV.weak.refl _) (.cons AV.weak_nil (.cons (AV.weak.refl _) (.cons AV.weak_any (.cons AV.weak_nil .nil))))) rfl rest
  rw [hX] at hws
  simp only [asetAll] at hws
  refine hend _ (t.set (1 + 2 * k) (branchN ay)) _ ?_ (by rw [List.length_set]) ?_ (by simp only [upd,initE,List.getD_cons_zero,List.getD_cons_succ,Nc,↓reduceIte]) (by simp only [upd,Nc,↓reduceIte])
  ·have:=AS.tells_obj (Γ:=Γ) (AS.set_objs_same s1 ob _) hws
   rw [AS.set_set] at this
   exact this
  ·refine ⟨by rw [List.length_set]; exact hW.1,fun n hn=>?_⟩
   rcases List.mem_or_eq_of_mem_set hn with h | rfl
   ·exact hW.2 n h
   ·exact ⟨by simp [branchN],hy⟩
 ·have hdf : decide ((1 : Int) < (t.length : Int)) = false:=decide_eq_false (by omega)
  refine jB @hdf ?_
  refine jF ?_
  refine awp_skip ?_
  have:=fun E=>hend E t _ (AS.tells.refl _) rfl hW
  rw [hX] at this
  exact this _ (by simp only [upd,initE,List.getD_cons_zero,List.getD_cons_succ,Nc,↓reduceIte]) (by simp only [upd,Nc,↓reduceIte])
end Go.Proofs.YtfjlmkifiihgkaaGreatDoor
