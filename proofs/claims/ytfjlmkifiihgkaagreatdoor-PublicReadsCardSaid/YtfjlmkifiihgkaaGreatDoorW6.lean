/- Contracts of the program's functions, each walked once; the conditions stand in each theorem. -/
import Derived.Test.YtfjlmkifiihgkaaGreatDoorAMp6
import Derived.Test.YtfjlmkifiihgkaaGreatDoorW1
import Derived.Test.YtfjlmkifiihgkaaGreatDoorW5
import Derived.Test.YtfjlmkifiihgkaaGreatDoorW3
import Derived.Test.YtfjlmkifiihgkaaGreatDoorAMp5
set_option linter.unusedSimpArgs false
set_option linter.unusedVariables false
open Nat renaming reduceLT → Na, reduceLeDiff → Nb, reduceEqDiff → Nc, reduceAdd → Nk, reduceMul → Nf, reducePow → Ng, reduceSub → Nh, reduceBEq → Nz
open Int renaming reduceLT → Za, reduceLE → Zb, reduceToNat → Zc
open And renaming intro → Ai
open Go.AM renaming ashift → Qa, aconv → Qb, aindexAddr → Qc, aindex → Qd, aslice → Qe, abuiltin → Qf, awp_reg_seq → wS, awp_reg_end → wE, awp_seq_k → wK, awp_cond_k → wC
open Go.AM.AV renaming cells → Qg, one → Qh
set_option maxRecDepth 100000
set_option maxHeartbeats 8000000
set_option autoImplicit false
namespace Go.Proofs.YtfjlmkifiihgkaaGreatDoor
open Go Go.AM Go.Proofs
variable {Γ : Nat→List AV}
theorem strEq {a b : List UInt8} (h : a = b) : (a == b) = true:=by simpa using h
theorem strNe {a b : List UInt8} (h : a≠b) : (a == b) = false:=by simpa using h
theorem refCount_calls (t : List NodeV) (ht : t.length≤2 ^ 61) (a k : Nat) (hak : a + k < 2 ^ 61) (s : AS) : ACalls Tryz.prog Γ 75 [treeV t,.v (.int .i64 a),.v (.int .i64 (((a + k : Nat) : Int) - 1))] s (fun r s'=>r = .v (.int .i64 (cntN (memR t) a k))∧s' = s):=by
 refine acalls_body Tryz.func75 rfl Tryz.ntmps75 Tryz.results75 (by simp) ?_
 have hm:=fun i s=>refMember_calls (Γ:=Γ) t ht i s
 unfold treeV at hm ⊢
 generalize rowC NodeV.cells t = X at *
 refine jA ?_
 refine jA ?_
 refine wK fun K hK=>?_
 refine jA ?_
 refine awp_block ?_
 refine awp_loop (fun E s2=>∃ i : Nat,i≤k∧E 8 = .v (.int .i64 ((a + i : Nat) : Int))∧E 7 = .v (.int .i64 (cntN (memR t) a i))∧E 0 = .sl 5 t.length X .any∧E 2 = .v (.int .i64 (((a + k : Nat) : Int) - 1))∧s2 = s)
  (fun E _=>match E 8 with | .v (.int _ i)=>a + k - i.toNat | _=>0) ?_ ?_
 ·exact ⟨0,Nat.zero_le _,by simp only [upd,Nc,↓reduceIte]; rfl,by simp only [upd,Nc,↓reduceIte]; rfl,by simp only [upd,initE,List.getD_cons_zero,List.getD_cons_succ,Nc,↓reduceIte],by simp only [upd,initE,List.getD_cons_zero,List.getD_cons_succ,Nc,↓reduceIte],rfl⟩
 ·rintro E1 s2 ⟨i,hi,g8,g7,g0,g2,rfl⟩ -
  refine wK fun K2 hK2=>?_
  by_cases hi' : i < k
  ·have h1 : decide (((a + i : Nat) : Int)≤((a + k : Nat) : Int) - 1) = true:=decide_eq_true (by omega)
   refine jB (Ai @g8 (Ai @g2 @h1)) ?_
   refine jE ?_
   refine awp_skip ?_
   refine hK2 _ _ ?_;clear hK2 K2
   refine wK fun K3 hK3=>?_
   refine awp_block ?_
   have hend : ∀ (E : Env),E 8 = .v (.int .i64 ((a + i : Nat) : Int))→E 7 = .v (.int .i64 (cntN (memR t) a (i + 1)))→E 0 = .sl 5 t.length X .any→E 2 = .v (.int .i64 (((a + k : Nat) : Int) - 1))→K3 E s2:=by
    intro E f8 f7 f0 f2
    refine hK3 _ _ ?_;clear hK3 K3
    refine jD (Ai @f8 (eye_succM (a + i) (by omega))) ?_
    refine ⟨⟨i + 1,hi',by simp only [upd,Nc,↓reduceIte]; rfl,by simp only [upd,f7,Nc,↓reduceIte],by simp only [upd,f0,Nc,↓reduceIte],by simp only [upd,f2,Nc,↓reduceIte],rfl⟩,?_⟩
    simp only [g8,upd,↓reduceIte]
    omega
   clear hK3
   refine jS (Ai @g0 @g8) fun K hK=>?_
   refine acallk (hm _ _) ?_
   rintro r s3 ⟨rfl,rfl⟩
   have hc:=cntN_le (memR t) a i
   by_cases hp : memR t ((a + i : Nat) : Int)
   ·rw [decide_eq_true hp]
    refine jR hK ?_;clear hK K
    refine jE ?_
    refine jD (Ai @g7 (eye_succM (cntN (memR t) a i) (by omega))) ?_
    refine hend _ (by simp only [upd,g8,Nc,↓reduceIte]) ?_ (by simp only [upd,g0,Nc,↓reduceIte]) (by simp only [upd,g2,Nc,↓reduceIte])
    have : cntN (memR t) a (i + 1) = cntN (memR t) a i + 1:=by simp only [cntN]; rw [if_pos hp]
    rw [this]
    simp only [upd,Nc,↓reduceIte]
   ·rw [decide_eq_false hp]
    refine jR hK ?_;clear hK K
    refine jF ?_
    refine awp_skip ?_
    refine hend _ (by simp only [upd,g8,Nc,↓reduceIte]) ?_ (by simp only [upd,g0,Nc,↓reduceIte]) (by simp only [upd,g2,Nc,↓reduceIte])
    have : cntN (memR t) a (i + 1) = cntN (memR t) a i:=by simp only [cntN]; rw [if_neg hp]; omega
    rw [this]
    simp only [upd,g7,Nc,↓reduceIte]
  ·have h1 : decide (((a + i : Nat) : Int)≤((a + k : Nat) : Int) - 1) = false:=decide_eq_false (by omega)
   refine jB (Ai @g8 (Ai @g2 @h1)) ?_
   refine jF ?_
   refine awp_exit ?_
   simp only [thenQ,blockQ,if_true]
   refine hK _ _ ?_;clear hK hK2 K2 K
   obtain rfl : i = k:=by omega
   refine jB @g7 ?_
   exact jJ
theorem refNamed_calls (t : List NodeV) (ht : t.length≤2 ^ 61) (name : List UInt8) (s : AS) : ACalls Tryz.prog Γ 72 [treeV t,.v (.string ⟨name.toArray⟩)] s (fun r s'=>r = .v (.int .i64 (namedR t name))∧s' = s):=by
 refine acalls_body Tryz.func72 rfl Tryz.ntmps72 Tryz.results72 (by simp) ?_
 have hm:=fun i s=>refMember_calls (Γ:=Γ) t ht i s
 have hat:=fun i (h : i < t.length)=>node_at (t:=t) h
 obtain ⟨Q,hQ⟩ : ∃ Q : Nat→Bool,Q = fun (j : Nat)=>decide (memR t (j : Int)∧(nd t (2 * j)).name = name):=⟨_,rfl⟩
 have hres : namedR t name = firstN Q (hlf t - 0) 0:=by rw [hQ]; rfl
 unfold treeV at hm ⊢
 generalize rowC NodeV.cells t = X at *
 refine jA ?_
 refine wK fun K hK=>?_
 refine jA ?_
 refine awp_block ?_
 refine awp_loop (fun E s2=>∃ i : Nat,i≤2 ^ 61∧firstN Q (hlf t - i) i = firstN Q (hlf t - 0) 0∧E 5 = .v (.int .i64 i)∧E 0 = .sl 5 t.length X .any∧E 1 = .v (.string ⟨name.toArray⟩)∧s2 = s)
  (fun E _=>match E 5 with | .v (.int _ i)=>hlf t - i.toNat | _=>0) ?_ ?_
 ·exact ⟨0,by omega,rfl,by simp only [upd,Nc,↓reduceIte]; rfl,by simp only [upd,initE,List.getD_cons_zero,List.getD_cons_succ,Nc,↓reduceIte],by simp only [upd,initE,List.getD_cons_zero,List.getD_cons_succ,Nc,↓reduceIte],rfl⟩
 ·rintro E1 s2 ⟨i,hi,hf,g7,g0,g1,rfl⟩ -
  refine wK fun K2 hK2=>?_
  by_cases hi' : i < hlf t
  ·have hi2 : 2 * i < t.length:=hlf_lt.1 hi'
   refine jB (Ai @g7 (Ai @g0 (Ai (imul2_nat i (by omega)) (Ai @eye_lt_nat (decide_eq_true hi2))))) ?_
   refine jE ?_
   refine awp_skip ?_
   refine hK2 _ _ ?_;clear hK2 K2
   refine wK fun K3 hK3=>?_
   refine awp_block ?_
   obtain ⟨k,hk⟩ : ∃ k,hlf t - i = k + 1:=⟨hlf t - i - 1,by omega⟩
   have hk' : hlf t - (i + 1) = k:=by omega
   rw [hk] at hf
   have hQi : Q i = decide (memR t i∧(nd t (2 * i)).name = name):=by rw [hQ]
   have hend : ∀ (E : Env),Q i = false→E 5 = .v (.int .i64 i)→E 0 = .sl 5 t.length X .any→E 1 = .v (.string ⟨name.toArray⟩)→K3 E s2:=by
    intro E hq f7 f0 f1
    refine hK3 _ _ ?_;clear hK3 K3
    refine jD (Ai @f7 (eye_succM i (by omega))) ?_
    refine ⟨⟨i + 1,by omega,by rw [hk',← hf,firstN_step hq],by simp only [upd,Nc,↓reduceIte],by simp only [upd,f0,Nc,↓reduceIte],by simp only [upd,f1,Nc,↓reduceIte],rfl⟩,?_⟩
    simp only [g7,upd,↓reduceIte]
    omega
   clear hK3
   have hat':=hat (2 * i) hi2
   generalize nd t (2 * i) = N at *
   obtain ⟨nk,nm,ny,npa,nu⟩:=N
   unfold NodeV.cells at hat'
   simp only at hQi
   have hge : (0 : Int)≤((2 * i : Nat) : Int):=by omega
   refine jS (Ai @g0 @g7) fun K hK=>?_
   refine acallk (hm _ _) ?_
   rintro r s3 ⟨rfl,rfl⟩
   by_cases hp : memR t (i : Int)
   ·rw [decide_eq_true hp]
    by_cases hn : nm = name
    ·rw [decide_eq_true ⟨hp,hn⟩] at hQi
     refine jV (Ai @g0 (Ai @g7 (Ai @g1 (Ai (imul2_nat i (by omega)) (Ai @eye_lt_nat (Ai @hi2 (Ai @hge (Ai @hat' (strEq hn))))))))) hK ?_;clear hK K
     refine jE ?_
     refine jB @g7 ?_
     refine jI ?_
     rw [hres,← hf,firstN_here hQi]
     exact ⟨_,_,AV.weak.refl _,AS.le.refl _,rfl,rfl⟩
    ·rw [decide_eq_false (fun q=>hn q.2)] at hQi
     refine jV (Ai @g0 (Ai @g7 (Ai @g1 (Ai (imul2_nat i (by omega)) (Ai @eye_lt_nat (Ai @hi2 (Ai @hge (Ai @hat' (strNe hn))))))))) hK ?_;clear hK K
     refine jF ?_
     refine awp_skip ?_
     exact hend _ hQi (by simp only [upd,g7,Nc,↓reduceIte]) (by simp only [upd,g0,Nc,↓reduceIte]) (by simp only [upd,g1,Nc,↓reduceIte])
   ·rw [decide_eq_false hp]
    rw [decide_eq_false (fun q=>hp q.1)] at hQi
    refine jR hK ?_;clear hK K
    refine jF ?_
    refine awp_skip ?_
    exact hend _ hQi (by simp only [upd,g7,Nc,↓reduceIte]) (by simp only [upd,g0,Nc,↓reduceIte]) (by simp only [upd,g1,Nc,↓reduceIte])
  ·have hi2 : ¬ 2 * i < t.length:=fun h=>hi' (hlf_lt.2 h)
   refine jB (Ai @g7 (Ai @g0 (Ai (imul2_nat i (by omega)) (Ai @eye_lt_nat (decide_eq_false hi2))))) ?_
   refine jF ?_
   refine awp_exit ?_
   simp only [thenQ,blockQ,if_true]
   refine hK _ _ ?_;clear hK hK2 K2 K
   rw [show hlf t - i = 0 by omega] at hf
   refine jA ?_
   refine jI ?_
   rw [hres,← hf]
   exact ⟨_,_,AV.weak.refl _,AS.le.refl _,rfl,rfl⟩
end Go.Proofs.YtfjlmkifiihgkaaGreatDoor
namespace Go.Proofs.YtfjlmkifiihgkaaGreatDoor
open Go Go.AM Go.Proofs
variable {Γ : Nat→List AV}
theorem rightT_R {t : List NodeV} : rightT t↔lvs t≠0∧(∀ i,i < t.length→goodR t i)∧(lvs t = 1∨0 < cntN (memR t) (lvs t / 2) (lvs t - lvs t / 2)):=by
 unfold rightT
 constructor
 ·rintro ⟨a,b,c⟩
  exact ⟨a,(good_iff a).2 b,c.imp id fun q=>by rw [cntN_congr (memR_iff a)]; exact q⟩
 ·rintro ⟨a,b,c⟩
  exact ⟨a,(good_iff a).1 b,c.imp id fun q=>by rw [← cntN_congr (memR_iff a)]; exact q⟩
theorem refRight20_calls (t : List NodeV) (ht : TreeW t) (s : AS) : ACalls Tryz.prog Γ 17 [treeV t] s (fun r s'=>r = .v (.bool (decide (rightT t)))∧s' = s):=by
 refine acalls_body Tryz.func17 rfl Tryz.ntmps17 Tryz.results17 (by simp) ?_
 have htl:=ht.1
 have hlc:=fun s=>refLeaves_calls (Γ:=Γ) t htl s
 have hmc:=fun i s=>refMember_calls (Γ:=Γ) t htl i s
 have hnc:=fun name s=>refNamed_calls (Γ:=Γ) t htl name s
 have hcc:=fun a k h s=>refCount_calls (Γ:=Γ) t htl a k h s
 have hrn:=fun i s=>refRight19_calls (Γ:=Γ) (nd t i) (ht.nd i).1 s
 have hul:=fun i=>(ht.nd i).1
 have hat:=fun i (h : i < t.length)=>node_at (t:=t) h
 have hlv:=lvs_le t
 have h0len : lvs t≠0→t.length = 2 * lvs t - 1:=fun h=>(lvs_zero_or.resolve_left h).2
 have hno0 : lvs t = 0→decide (rightT t) = false:=fun h=>decide_eq_false fun k=>k.1 h
 have hnoi : ∀ i,i < t.length→¬ goodR t i→decide (rightT t) = false:=fun i h1 h2=>decide_eq_false fun k=>h2 ((rightT_R.1 k).2.1 i h1)
 have hfin : lvs t≠0→(∀ i,i < t.length→goodR t i)→decide (rightT t) = (((lvs t : Int) == 1) || decide ((0 : Int) < (cntN (memR t) (lvs t / 2) (lvs t - lvs t / 2) : Int))):=by
  intro h1 h2
  rw [Bool.eq_iff_iff,decide_eq_true_iff,Bool.or_eq_true,beq_iff_eq,decide_eq_true_iff,rightT_R]
  constructor
  ·rintro ⟨_,_,h3⟩
   exact h3.imp (fun q=>by omega) (fun q=>by omega)
  ·intro h3
   exact ⟨h1,h2,h3.imp (fun q=>by omega) (fun q=>by omega)⟩
 unfold treeV at *
 generalize rowC NodeV.cells t = X at *
 generalize decide (rightT t) = RES at *
 refine jA ?_
 refine jK (hlc _) ?_;rintro s1 rfl
 refine wK fun K hK=>?_
 by_cases hz : lvs t = 0
 ·refine jB (nat0 hz) ?_
  refine jE ?_
  refine jA ?_
  refine jI ?_
  rw [hno0 hz]
  exact ⟨_,_,AV.weak.refl _,AS.le.refl _,rfl,rfl⟩
 ·refine jB (nat0F hz) ?_
  refine jF ?_
  refine awp_skip ?_
  refine hK _ _ ?_;clear hK K
  have hlen:=h0len hz
  refine wK fun K hK=>?_
  refine jA ?_
  refine awp_block ?_
  refine awp_loop (fun E s2=>∃ i : Nat,i≤t.length∧(∀ j,j < i→goodR t j)∧E 4 = .v (.int .i64 i)∧E 3 = .v (.int .i64 (lvs t))∧E 0 = .sl 5 t.length X .any∧s2 = s1)
   (fun E _=>match E 4 with | .v (.int _ i)=>t.length - i.toNat | _=>0) ?_ ?_
  ·exact ⟨0,Nat.zero_le _,fun j h=>absurd h (Nat.not_lt_zero _),by simp only [upd,Nc,↓reduceIte]; rfl,by simp only [upd,Nc,↓reduceIte],by simp only [upd,initE,List.getD_cons_zero,List.getD_cons_succ,Nc,↓reduceIte],rfl⟩
  ·rintro E1 s2 ⟨i,hi,hall,g4,g3,g0,rfl⟩ -
   refine wK fun K2 hK2=>?_
   by_cases hi' : i < t.length
   ·refine jB (Ai @g4 (Ai @g0 (Ai @eye_lt_nat (decide_eq_true hi')))) ?_
    refine jE ?_
    refine awp_skip ?_
    refine hK2 _ _ ?_;clear hK2 K2
    refine wK fun K3 hK3=>?_
    refine awp_block ?_
    have hnoi':=hnoi i hi'
    have hgood : goodR t i↔(nd t i).right∧((nd t i).kind = 0∨((nd t i).kind = 1↔i % 2 = 0))∧((nd t i).kind = 1→namedR t (nd t i).name = ((i / 2 : Nat) : Int))∧∀ u ∈ (nd t i).unm,(undI (i : Int)).1≤u∧u≤(undI (i : Int)).2∧memR t u:=Iff.rfl
    have hat':=hat i hi'
    have hrn':=hrn i
    have hul':=hul i
    have hni:=fun s=>hnc (nd t i).name s
    have hun:=fun s=>refUnder18_calls (Γ:=Γ) (i : Int) s
    generalize (undI (i : Int)).1 = ua at *
    generalize (undI (i : Int)).2 = ub at *
    generalize namedR t (nd t i).name = NI at *
    generalize nd t i = N at *
    obtain ⟨nk,nm,ny,npa,nu⟩:=N
    unfold NodeV.cells at hat' hrn'
    simp only at hni hul' hgood
    unfold intsV at hat' hrn'
    have hge : (0 : Int)≤(i : Int):=by omega
    have hr2 : irem (i : Int) 2 = ((i % 2 : Nat) : Int):=irem_u i 2
    have hq2 : iquo .i64 (i : Int) 2 = ((i / 2 : Nat) : Int):=iquo_nat i (by omega)
    have bb : ((true != true) = false∧(false != false) = false)∧((true != false) = true∧(false != true) = true):=⟨⟨rfl,rfl⟩,rfl,rfl⟩
    have bc : ((true == true) = true∧(false == false) = true)∧((true == false) = false∧(false == true) = false):=⟨⟨rfl,rfl⟩,rfl,rfl⟩
    have hend : goodR t i→∀ (E : Env),E 4 = .v (.int .i64 i)→E 3 = .v (.int .i64 (lvs t))→E 0 = .sl 5 t.length X .any→K3 E s2:=by
     intro hg E f4 f3 f0
     refine hK3 _ _ ?_;clear hK3 K3
     refine jD (Ai @f4 (eye_succM i (by omega))) ?_
     refine ⟨⟨i + 1,by omega,?_,by simp only [upd,Nc,↓reduceIte],by simp only [upd,f3,Nc,↓reduceIte],by simp only [upd,f0,Nc,↓reduceIte],rfl⟩,?_⟩
     ·intro j hj
      by_cases e : j = i
      ·rw [e]; exact hg
      ·exact hall j (by omega)
     ·simp only [g4,upd,↓reduceIte]
      omega
    clear hK3
    refine awp_reg_frz 5 (by decide) ?_
    intro K5 hK5
    simp only [↓DM,pval,DX,Nz,↓DN,Qa,Qb,Qc,Qd,Qe,Qf,Qg,Qh,reduceCtorEq,↓reduceIte,Na,Nb,Nc,Nk,Nf,Ng,Nh,Za,Zb,Zc,TT,g0,g4,eye_lt_nat,hi',hge,hat']
    intro o1 h1
    refine hK5 _ _ o1 _ (by simp only [upd,Nc,↓reduceIte]) h1 ?_
    clear hK5 K5 h1
    refine wK fun K4 hK4=>?_
    have h4 : (NodeV.right ⟨nk,nm,ny,npa,nu⟩∧(nk = 0∨(nk = 1↔i % 2 = 0)))→∀ (E : Env),E 4 = .v (.int .i64 i)→E 3 = .v (.int .i64 (lvs t))→E 0 = .sl 5 t.length X .any→E 5 = .rop [.v (.int .i64 nk),.sl 1 nm.length (nm.map byteV) .any,.v (.int .u64 ny),.sl 1 npa.length (npa.map byteV) .any,.sl 1 nu.length (nu.map intC) .any]→K4 E s2:=by
     clear g4 g3 g0
     rintro ⟨gr,gk⟩ E g4 g3 g0 g5
     refine hK4 _ _ ?_;clear hK4 K4
     refine wK fun K6 hK6=>?_
     have h6 : (nk = 1→NI = ((i / 2 : Nat) : Int))→∀ (E : Env),E 4 = .v (.int .i64 i)→E 3 = .v (.int .i64 (lvs t))→E 0 = .sl 5 t.length X .any→E 5 = .rop [.v (.int .i64 nk),.sl 1 nm.length (nm.map byteV) .any,.v (.int .u64 ny),.sl 1 npa.length (npa.map byteV) .any,.sl 1 nu.length (nu.map intC) .any]→K6 E s2:=by
      clear g4 g3 g0 g5
      intro gn E g4 g3 g0 g5
      refine hK6 _ _ ?_;clear hK6 K6
      refine jS @g4 fun K hK=>?_
      refine acallk (hun _) ?_
      rintro r s3 ⟨rfl,rfl⟩
      refine jR hK ?_;clear hK K
      refine jA ?_
      refine awp_block ?_
      refine awp_loop (fun E s4=>∃ k : Nat,k≤nu.length∧(∀ u ∈ nu.take k,ua≤u∧u≤ub∧memR t u)∧E 8 = .v (.int .i64 k)∧E 6 = .v (.int .i64 ua)∧E 7 = .v (.int .i64 ub)∧E 4 = .v (.int .i64 i)∧E 3 = .v (.int .i64 (lvs t))∧E 0 = .sl 5 t.length X .any∧E 5 = .rop [.v (.int .i64 nk),.sl 1 nm.length (nm.map byteV) .any,.v (.int .u64 ny),.sl 1 npa.length (npa.map byteV) .any,.sl 1 nu.length (nu.map intC) .any]∧s4 = s3)
       (fun E _=>match E 8 with | .v (.int _ i)=>nu.length - i.toNat | _=>0) ?_ ?_
      ·exact ⟨0,Nat.zero_le _,(by intro u hu; simp at hu),by simp only [upd,Nc,↓reduceIte]; rfl,by simp only [upd,Nc,↓reduceIte],by simp only [upd,Nc,↓reduceIte],by simp only [upd,g4,Nc,↓reduceIte],by simp only [upd,g3,Nc,↓reduceIte],by simp only [upd,g0,Nc,↓reduceIte],by simp only [upd,g5,Nc,↓reduceIte],rfl⟩
      ·clear g4 g3 g0 g5
       rintro E2 s4 ⟨k,hk,hku,g8,g6,g7,g4,g3,g0,g5,rfl⟩ -
       refine wK fun K7 hK7=>?_
       by_cases hk' : k < nu.length
       ·refine jB (Ai @g8 (Ai @g5 (Ai @eye_lt_nat (decide_eq_true hk')))) ?_
        refine jE ?_
        refine awp_skip ?_
        refine hK7 _ _ ?_;clear hK7 K7
        refine wK fun K8 hK8=>?_
        refine awp_block ?_
        have hgk : (0 : Int)≤(k : Int):=by omega
        have huat:=eat_int hk'
        have humem : nu[k] ∈ nu:=List.getElem_mem hk'
        have hutk : nu.take (k + 1) = nu.take k ++ [nu[k]]:=List.take_succ_eq_append_getElem hk'
        generalize nu[k] = u at *
        have hend2 : (ua≤u∧u≤ub∧memR t u)→∀ (E : Env),E 8 = .v (.int .i64 k)→E 6 = .v (.int .i64 ua)→E 7 = .v (.int .i64 ub)→E 4 = .v (.int .i64 i)→E 3 = .v (.int .i64 (lvs t))→E 0 = .sl 5 t.length X .any→E 5 = .rop [.v (.int .i64 nk),.sl 1 nm.length (nm.map byteV) .any,.v (.int .u64 ny),.sl 1 npa.length (npa.map byteV) .any,.sl 1 nu.length (nu.map intC) .any]→K8 E s4:=by
         intro hu E f8 f6 f7 f4 f3 f0 f5
         refine hK8 _ _ ?_;clear hK8 K8
         refine jD (Ai @f8 (eye_succM k (by omega))) ?_
         refine ⟨⟨k + 1,by omega,?_,by simp only [upd,Nc,↓reduceIte],by simp only [upd,f6,Nc,↓reduceIte],by simp only [upd,f7,Nc,↓reduceIte],by simp only [upd,f4,Nc,↓reduceIte],by simp only [upd,f3,Nc,↓reduceIte],by simp only [upd,f0,Nc,↓reduceIte],by simp only [upd,f5,Nc,↓reduceIte],rfl⟩,?_⟩
         ·intro v hv
          rw [hutk,List.mem_append,List.mem_singleton] at hv
          rcases hv with hv | rfl
          ·exact hku v hv
          ·exact hu
         ·simp only [g8,upd,↓reduceIte]
          omega
        clear hK8
        refine jB (Ai @g5 (Ai @g8 (Ai @eye_lt_nat (Ai @hk' (Ai @hgk (Ai @huat @intC.eq_1)))))) ?_
        by_cases u1 : u < ua
        ·refine jB (Ai @g6 (decide_eq_true u1)) ?_
         refine jE ?_
         refine jA ?_
         refine jI ?_
         rw [hnoi' (fun q=>by have:=((hgood.1 q).2.2.2 u humem).1; omega)]
         exact ⟨_,_,AV.weak.refl _,AS.le.refl _,rfl,rfl⟩
        ·by_cases u2 : ub < u
         ·refine jB (Ai @g6 (Ai @g7 (Ai (decide_eq_false u1) (decide_eq_true u2)))) ?_
          refine jE ?_
          refine jA ?_
          refine jI ?_
          rw [hnoi' (fun q=>by have:=((hgood.1 q).2.2.2 u humem).2.1; omega)]
          exact ⟨_,_,AV.weak.refl _,AS.le.refl _,rfl,rfl⟩
         ·refine jS (Ai @g6 (Ai @g7 (Ai @g0 (Ai (decide_eq_false u1) (decide_eq_false u2))))) fun K hK=>?_
          refine acallk (hmc _ _) ?_
          rintro r s5 ⟨rfl,rfl⟩
          by_cases u3 : memR t u
          ·rw [decide_eq_true u3]
           refine jR hK ?_;clear hK K
           refine jF ?_
           refine awp_skip ?_
           simp only [blockQ,thenQ,if_true,if_false]
           exact hend2 ⟨by omega,by omega,u3⟩ _ (by simp only [upd,g8,Nc,↓reduceIte]) (by simp only [upd,g6,Nc,↓reduceIte]) (by simp only [upd,g7,Nc,↓reduceIte]) (by simp only [upd,g4,Nc,↓reduceIte]) (by simp only [upd,g3,Nc,↓reduceIte]) (by simp only [upd,g0,Nc,↓reduceIte]) (by simp only [upd,g5,Nc,↓reduceIte])
          ·rw [decide_eq_false u3]
           refine jR hK ?_;clear hK K
           refine jE ?_
           refine jA ?_
           refine jI ?_
           rw [hnoi' (fun q=>u3 ((hgood.1 q).2.2.2 u humem).2.2)]
           exact ⟨_,_,AV.weak.refl _,AS.le.refl _,rfl,rfl⟩
       ·refine jB (Ai @g8 (Ai @g5 (Ai @eye_lt_nat (decide_eq_false hk')))) ?_
        refine jF ?_
        refine awp_exit ?_
        simp only [thenQ,blockQ,if_true,if_false]
        rw [List.take_of_length_le (by omega)] at hku
        exact hend (hgood.2 ⟨gr,gk,gn,hku⟩) _ (by simp only [upd,g4,Nc,↓reduceIte]) (by simp only [upd,g3,Nc,↓reduceIte]) (by simp only [upd,g0,Nc,↓reduceIte])
     clear hK6
     by_cases k1 : nk = 1
     ·refine jS (Ai @g5 (Ai (yesI k1) @g0)) fun K hK=>?_
      refine acallk (hni _) ?_
      rintro r s3 ⟨rfl,rfl⟩
      by_cases hn : NI = ((i / 2 : Nat) : Int)
      ·refine jV (Ai @g4 (Ai @two0 (Ai @hq2 (eqI hn)))) hK ?_;clear hK K
       refine jF ?_
       refine awp_skip ?_
       exact h6 (fun _=>hn) _ (by simp only [upd,g4,Nc,↓reduceIte]) (by simp only [upd,g3,Nc,↓reduceIte]) (by simp only [upd,g0,Nc,↓reduceIte]) (by simp only [upd,g5,Nc,↓reduceIte])
      ·refine jV (Ai @g4 (Ai @two0 (Ai @hq2 (neI hn)))) hK ?_;clear hK K
       refine jE ?_
       refine jA ?_
       refine jI ?_
       rw [hnoi' (fun q=>hn ((hgood.1 q).2.2.1 k1))]
       exact ⟨_,_,AV.weak.refl _,AS.le.refl _,rfl,rfl⟩
     ·refine jB (Ai @g5 (notI k1)) ?_
      refine jF ?_
      refine awp_skip ?_
      exact h6 (fun q=>absurd q k1) _ (by simp only [upd,g4,Nc,↓reduceIte]) (by simp only [upd,g3,Nc,↓reduceIte]) (by simp only [upd,g0,Nc,↓reduceIte]) (by simp only [upd,g5,Nc,↓reduceIte])
    clear hK4
    refine jQ fun K hK=>?_
    refine acallk (hrn' _) ?_
    rintro r s3 ⟨rfl,rfl⟩
    by_cases gr : NodeV.right ⟨nk,nm,ny,npa,nu⟩
    ·rw [decide_eq_true gr]
     by_cases k0 : nk = 0
     ·refine jV (eqI k0) hK ?_;clear hK K
      refine jF ?_
      refine awp_skip ?_
      exact h4 ⟨gr,.inl k0⟩ _ (by simp only [upd,g4,Nc,↓reduceIte]) (by simp only [upd,g3,Nc,↓reduceIte]) (by simp only [upd,g0,Nc,↓reduceIte]) (by simp only [upd,Nc,↓reduceIte])
     ·by_cases k1 : nk = 1
      ·by_cases kp : i % 2 = 0
       ·have t2 : (irem (i : Int) 2 == 0) = true:=by rw [hr2]; exact yesI (by omega)
        simp only [↓DM,pval,DX,Nz,↓DN,Qa,Qb,Qc,Qd,Qe,Qf,Qg,Qh,reduceCtorEq,↓reduceIte,Na,Nb,Nc,Nk,Nf,Ng,Nh,Za,Zb,Zc,TT,neI k0,yesI k1,g4,two0,t2,bb,bc]
        refine hK _ _ ?_;clear hK K
        refine jF ?_
        refine awp_skip ?_
        exact h4 ⟨gr,.inr ⟨fun _=>kp,fun _=>k1⟩⟩ _ (by simp only [upd,g4,Nc,↓reduceIte]) (by simp only [upd,g3,Nc,↓reduceIte]) (by simp only [upd,g0,Nc,↓reduceIte]) (by simp only [upd,Nc,↓reduceIte])
       ·have t2 : (irem (i : Int) 2 == 0) = false:=by rw [hr2]; exact notI (by omega)
        simp only [↓DM,pval,DX,Nz,↓DN,Qa,Qb,Qc,Qd,Qe,Qf,Qg,Qh,reduceCtorEq,↓reduceIte,Na,Nb,Nc,Nk,Nf,Ng,Nh,Za,Zb,Zc,TT,neI k0,yesI k1,g4,two0,t2,bb,bc]
        refine hK _ _ ?_;clear hK K
        refine jE ?_
        refine jA ?_
        refine jI ?_
        rw [hnoi' (fun q=>by rcases (hgood.1 q).2.1 with h | h; exact k0 h; exact kp (h.1 k1))]
        exact ⟨_,_,AV.weak.refl _,AS.le.refl _,rfl,rfl⟩
      ·by_cases kp : i % 2 = 0
       ·have t2 : (irem (i : Int) 2 == 0) = true:=by rw [hr2]; exact yesI (by omega)
        simp only [↓DM,pval,DX,Nz,↓DN,Qa,Qb,Qc,Qd,Qe,Qf,Qg,Qh,reduceCtorEq,↓reduceIte,Na,Nb,Nc,Nk,Nf,Ng,Nh,Za,Zb,Zc,TT,neI k0,notI k1,g4,two0,t2,bb,bc]
        refine hK _ _ ?_;clear hK K
        refine jE ?_
        refine jA ?_
        refine jI ?_
        rw [hnoi' (fun q=>by rcases (hgood.1 q).2.1 with h | h; exact k0 h; exact k1 (h.2 kp))]
        exact ⟨_,_,AV.weak.refl _,AS.le.refl _,rfl,rfl⟩
       ·have t2 : (irem (i : Int) 2 == 0) = false:=by rw [hr2]; exact notI (by omega)
        simp only [↓DM,pval,DX,Nz,↓DN,Qa,Qb,Qc,Qd,Qe,Qf,Qg,Qh,reduceCtorEq,↓reduceIte,Na,Nb,Nc,Nk,Nf,Ng,Nh,Za,Zb,Zc,TT,neI k0,notI k1,g4,two0,t2,bb,bc]
        refine hK _ _ ?_;clear hK K
        refine jF ?_
        refine awp_skip ?_
        exact h4 ⟨gr,.inr ⟨fun h=>absurd h k1,fun h=>absurd h kp⟩⟩ _ (by simp only [upd,g4,Nc,↓reduceIte]) (by simp only [upd,g3,Nc,↓reduceIte]) (by simp only [upd,g0,Nc,↓reduceIte]) (by simp only [upd,Nc,↓reduceIte])
    ·rw [decide_eq_false gr]
     refine jR hK ?_;clear hK K
     refine jE ?_
     refine jA ?_
     refine jI ?_
     rw [hnoi' (fun q=>gr (hgood.1 q).1)]
     exact ⟨_,_,AV.weak.refl _,AS.le.refl _,rfl,rfl⟩
   ·refine jB (Ai @g4 (Ai @g0 (Ai @eye_lt_nat (decide_eq_false hi')))) ?_
    refine jF ?_
    refine awp_exit ?_
    simp only [thenQ,blockQ,if_true]
    refine hK _ _ ?_;clear hK hK2 K2 K
    have hall' : ∀ j,j < t.length→goodR t j:=fun j h=>hall j (by omega)
    have hres:=hfin hz hall'
    by_cases h1 : lvs t = 1
    ·have e1:=yesI (show ((lvs t : Nat) : Int) = 1 by omega)
     rw [e1] at hres
     refine jB (Ai @g3 @e1) ?_
     refine jI ?_
     rw [hres]
     exact ⟨_,_,AV.weak.refl _,AS.le.refl _,rfl,rfl⟩
    ·have e1:=notI (show ¬ ((lvs t : Nat) : Int) = 1 by omega)
     rw [e1,Bool.false_or] at hres
     have e2 : iquo .i64 (lvs t : Int) 2 = ((lvs t / 2 : Nat) : Int):=iquo_nat _ (by omega)
     have e3 : isub .i64 (lvs t : Int) 1 = (((lvs t / 2 + (lvs t - lvs t / 2) : Nat)) : Int) - 1:=by rw [isub_i64 (by omega)]; omega
     have hcm:=fun s=>hcc (lvs t / 2) (lvs t - lvs t / 2) (by omega) s
     generalize (((lvs t / 2 + (lvs t - lvs t / 2) : Nat)) : Int) - 1 = LL at *
     refine jS (Ai @g3 (Ai @e1 (Ai @two0 (Ai @e2 (Ai @e3 @g0))))) fun K hK=>?_
     refine acallk (hcm _) ?_
     rintro r s3 ⟨rfl,rfl⟩
     refine jR hK ?_;clear hK K
     refine jI ?_
     rw [hres]
     exact ⟨_,_,AV.weak.refl _,AS.le.refl _,rfl,rfl⟩
end Go.Proofs.YtfjlmkifiihgkaaGreatDoor
namespace Go.Proofs.YtfjlmkifiihgkaaGreatDoor
open Go Go.AM Go.Proofs
variable {Γ : Nat→List AV}
theorem bytesClone_nil (s : AS) : ACalls Tryz.prog Γ 95 [nilS] s (fun r s'=>r = bytesV [] .any∧s' = s):=by
 refine acalls_body Tryz.func95 rfl Tryz.ntmps95 Tryz.results95 (by simp) ?_
 unfold nilS
 refine jA ?_
 refine wK fun K hK=>?_
 refine jA ?_
 refine jE ?_
 refine jA ?_
 refine jI ?_
 exact ⟨_,_,AV.weak_nil,AS.le.refl _,rfl,rfl⟩
theorem bytesClone_no (l : List UInt8) (s : AS) (hl : l.length≤2 ^ 45) : ACalls Tryz.prog Γ 95 [bytesV l .no] s (fun r s'=>r = bytesV l .any∧s' = s):=by
 refine acalls_body Tryz.func95 rfl Tryz.ntmps95 Tryz.results95 (by simp) ?_
 unfold bytesV
 refine jA ?_
 refine wK fun K hK=>?_
 refine jB @and_false ?_
 refine jF ?_
 refine awp_skip ?_
 refine hK _ _ ?_;clear hK K
 by_cases h0 : l.length = 0
 ·have hl0 : l = []:=List.eq_nil_of_length_eq_zero h0
  subst hl0
  refine jA ?_
  refine jI ?_
  exact ⟨_,s,AV.weak_any,AS.le.refl s,rfl,rfl⟩
 ·refine jS @h0 fun K hK=>?_
  refine ⟨by omega,by omega,fun t ht=>hK _ _ ?_⟩
  clear hK K
  refine jI ?_
  exact ⟨_,s,AV.weak_any,AS.le_gain (AS.le.refl s) ht 0,rfl,rfl⟩
theorem bytesClone_calls (l : List UInt8) (s : AS) (hl : l.length≤2 ^ 45) : ACalls Tryz.prog Γ 95 [bytesV l .any] s (fun r s'=>r = bytesV l .any∧s' = s) :=
 ACalls.any (pre:=[]) (post:=[]) (fun e=>by subst e; exact bytesClone_nil s) (bytesClone_no l s hl)
end Go.Proofs.YtfjlmkifiihgkaaGreatDoor
namespace Go.Proofs.YtfjlmkifiihgkaaGreatDoor
open Go Go.AM Go.Proofs
variable {Γ : Nat→List AV}
theorem memR_right {t : List NodeV} (h : rightT t) (i : Int) : memR t i↔memI t i:=memR_iff h.1 i
theorem take_eqL {α : Type} {a b : List α} {i : Nat} (ha : i < a.length) (hb : i < b.length) (h : a.take i = b.take i) (he : a[i] = b[i]) : a.take (i + 1) = b.take (i + 1):=by
 rw [List.take_succ_eq_append_getElem ha,List.take_succ_eq_append_getElem hb,h,he]
theorem take_fullL {α : Type} {a b : List α} {i : Nat} (hl : a.length = b.length) (ha : ¬ i < a.length) (h : a.take i = b.take i) : a = b:=by
 rwa [List.take_of_length_le (by omega),List.take_of_length_le (by omega)] at h
theorem same20_calls (a b : List NodeV) (ha : TreeW a) (s : AS) : ACalls Tryz.prog Γ 13 [treeV a,treeV b] s (fun r s'=>r = .v (.bool (decide (a = b)))∧s' = s):=by
 refine acalls_body Tryz.func13 rfl Tryz.ntmps13 Tryz.results13 (by simp) ?_
 have hrow1:=fun i (h : i < a.length)=>row_at (c:=NodeV.cells) (k:=5) (fun _=>rfl) h
 have hrow2:=fun i (h : i < b.length)=>row_at (c:=NodeV.cells) (k:=5) (fun _=>rfl) h
 have hal:=ha.1
 unfold treeV
 generalize rowC NodeV.cells a = XA at *
 generalize rowC NodeV.cells b = XB at *
 refine jA ?_
 refine wK fun K hK=>?_
 by_cases hl : a.length = b.length
 ·refine jB (natEq hl) ?_
  refine jF ?_
  refine awp_skip ?_
  refine hK _ _ ?_;clear hK K
  refine wK fun K hK=>?_
  refine jA ?_
  refine awp_block ?_
  refine awp_loop (fun E s2=>∃ i : Nat,i≤a.length∧E 5 = .v (.int .i64 i)∧E 0 = .sl 5 a.length XA .any∧E 1 = .sl 5 b.length XB .any∧a.take i = b.take i∧s2 = s)
   (fun E _=>match E 5 with | .v (.int _ i)=>a.length - i.toNat | _=>0) ?_ ?_
  ·exact ⟨0,Nat.zero_le _,by simp only [upd,Nc,↓reduceIte]; rfl,by simp only [upd,initE,List.getD_cons_zero,List.getD_cons_succ,Nc,↓reduceIte],by simp only [upd,initE,List.getD_cons_zero,List.getD_cons_succ,Nc,↓reduceIte],by simp,rfl⟩
  ·rintro E1 s2 ⟨i,hi,g5,g0,g1,hall,rfl⟩ -
   refine wK fun K2 hK2=>?_
   by_cases hi' : i < a.length
   ·refine jB (Ai @g5 (Ai @g0 (Ai @eye_lt_nat (decide_eq_true hi')))) ?_
    refine jE ?_
    refine awp_skip ?_
    refine hK2 _ _ ?_;clear hK2 K2
    refine wK fun K3 hK3=>?_
    refine awp_block ?_
    have hi2 : i < b.length:=by omega
    have hat1:=hrow1 i hi'
    have hat2:=hrow2 i hi2
    have hge : (0 : Int)≤(i : Int):=by omega
    have hyes : a[i] = b[i]→a.take (i + 1) = b.take (i + 1):=take_eqL hi' hi2 hall
    have hno : a[i]≠b[i]→decide (a = b) = false:=fun h=>decide_eq_false fun q=>h (by subst q; rfl)
    have hsm:=fun s=>refSame19_calls (Γ:=Γ) a[i] b[i] (ha.2 _ (List.getElem_mem hi')).1 s
    generalize a[i] = y1 at *
    generalize b[i] = y2 at *
    obtain ⟨P,hP⟩ : ∃ P,P = decide (y1 = y2):=⟨_,rfl⟩
    rw [← hP] at hsm
    obtain ⟨nk,nm,ny,npa,nu⟩:=y1
    obtain ⟨mk,mm,my,mpa,mu⟩:=y2
    unfold NodeV.cells at hat1 hat2 hsm
    simp only at hat1 hat2 hsm
    unfold intsV at hat1 hat2 hsm
    refine awp_drw_seq T.mixed [8] (by kernel_rfl) ?_
    intro K hK
    simp only [↓DM,pval,DX,Nz,↓DN,Qa,Qb,Qc,Qd,Qe,Qf,Qg,Qh,reduceCtorEq,↓reduceIte,Na,Nb,Nc,Nk,Nf,Ng,Nh,Za,Zb,Zc,TT,g5,g0,g1,eye_lt_nat,hi',hi2,hge,hat1,hat2]
    refine acallk (hsm _) ?_
    rintro r s3 ⟨rfl,rfl⟩
    cases P with
    | true =>
     refine jR hK ?_;clear hK K
     refine jF ?_
     refine awp_skip ?_
     simp only [blockQ,thenQ,if_true,if_false]
     refine hK3 _ _ ?_;clear hK3 K3
     refine jD (Ai @g5 (eye_succM i (by omega))) ?_
     refine ⟨⟨i + 1,by omega,by simp only [upd,Nc,↓reduceIte],by simp only [upd,g0,Nc,↓reduceIte],by simp only [upd,g1,Nc,↓reduceIte],hyes (of_decide_eq_true hP.symm),rfl⟩,?_⟩
     simp only [g5,upd,↓reduceIte]
     omega
    | false =>
     refine jR hK ?_;clear hK K
     refine jE ?_
     refine jA ?_
     refine jI ?_
     rw [hno (of_decide_eq_false hP.symm)]
     exact ⟨_,_,AV.weak.refl _,AS.le.refl _,rfl,rfl⟩
   ·refine jB (Ai @g5 (Ai @g0 (Ai @eye_lt_nat (decide_eq_false hi')))) ?_
    refine jF ?_
    refine awp_exit ?_
    simp only [thenQ,blockQ,if_true]
    refine hK _ _ ?_;clear hK hK2 K2 K
    have hab : a = b:=take_fullL hl hi' hall
    refine jA ?_
    refine jI ?_
    rw [decide_eq_true hab]
    exact ⟨_,_,AV.weak.refl _,AS.le.refl _,rfl,rfl⟩
 ·refine jB (natNe hl) ?_
  refine jE ?_
  refine jA ?_
  refine jI ?_
  rw [decide_eq_false (fun q=>hl (by rw [q]))]
  exact ⟨_,_,AV.weak.refl _,AS.le.refl _,rfl,rfl⟩
end Go.Proofs.YtfjlmkifiihgkaaGreatDoor
namespace Go.Proofs.YtfjlmkifiihgkaaGreatDoor
open Go Go.AM Go.Proofs
variable {Γ : Nat→List AV}
abbrev wV (x : Nat) : AV:=.v (.int .u32 (x : Int))
theorem neg_i64 (a : Nat) (h : a < 32) : ineg .i64 (a : Int) = -(a : Int):=by
 rw [ineg,IntWalk.i64_in _ (by omega)]
 omega
theorem rot_count (a : Nat) (h0 : 0 < a) (h : a < 32) : iand .u64 (iconv .u64 (-(a : Int))) 31 = ((32 - a : Nat) : Int):=by
 have e : iconv .u64 (-(a : Int)) = ((18446744073709551616 - a : Nat) : Int):=by
  rw [iconv,wrap_u rfl]
  simp only [IntKind.bits]
  omega
 rw [e,show (31 : Int) = ((31 : Nat) : Int) from rfl,iand_u rfl _ _ (by simp only [IntKind.bits]; omega) (by decide)]
 congr 1
 have : (18446744073709551616 - a) &&& 31 = (18446744073709551616 - a) % 2 ^ 5:=Nat.and_two_pow_sub_one_eq_mod _ 5
 rw [this]
 omega
theorem nat_not_neg (a : Nat) : ¬ ((a : Nat) : Int) < 0:=by omega
theorem rot_sub (a : Nat) (h0 : 0 < a) (h : a < 32) : isub .u64 32 ((32 - a : Nat) : Int) = ((a : Nat) : Int):=by
 have:=isub_u_le (k:=.u64) rfl 32 (32 - a) (by omega) (by decide)
 rw [show (32 : Int) = ((32 : Nat) : Int) from rfl,this]
 congr 1
 omega
theorem rot_val (x a : Nat) (hx : x < 4294967296) (h0 : 0 < a) (h : a < 32) : ior .u32 (ishl .u32 (x : Int) ((32 - a : Nat) : Int)) (ishr .u32 (x : Int) ((a : Nat) : Int)) = ((Sha.rotr x a : Nat) : Int):=by
 rw [ishl_u rfl,ishr_u]
 rw [ior_u rfl _ _ (Nat.mod_lt _ (by decide)) (by simp only [IntKind.bits]; exact Nat.lt_of_le_of_lt (Nat.div_le_self _ _) hx)]
 rw [Sha.rotr,Nat.or_comm]
 simp only [IntKind.bits]
 rw [Nat.min_eq_left (by omega),Nat.min_eq_left (by omega)]
theorem wxor (a b : Nat) (ha : a < 4294967296) (hb : b < 4294967296) : ixor .u32 (a : Int) (b : Int) = ((a ^^^ b : Nat) : Int):=ixor_u rfl a b ha hb
theorem wand (a b : Nat) (ha : a < 4294967296) (hb : b < 4294967296) : iand .u32 (a : Int) (b : Int) = ((a &&& b : Nat) : Int):=iand_u rfl a b ha hb
theorem wor (a b : Nat) (ha : a < 4294967296) (hb : b < 4294967296) : ior .u32 (a : Int) (b : Int) = ((a ||| b : Nat) : Int):=ior_u rfl a b ha hb
theorem wadd (a b : Nat) : iadd .u32 (a : Int) (b : Int) = ((Sha.add32 a b : Nat) : Int):=iadd_u rfl a b
theorem wnot (a : Nat) (ha : a < 4294967296) : inot .u32 (a : Int) = ((4294967295 - a : Nat) : Int):=inot_u rfl a ha
theorem wshr (a c : Nat) (hc : c < 32) : ishr .u32 (a : Int) ((c : Nat) : Int) = ((a / 2 ^ c : Nat) : Int):=by
 rw [ishr_u]
 simp only [IntKind.bits]
 rw [Nat.min_eq_left (by omega)]
theorem wshl (a c : Nat) (hc : c < 32) : ishl .u32 (a : Int) ((c : Nat) : Int) = (((a * 2 ^ c) % 4294967296 : Nat) : Int):=by
 rw [ishl_u rfl]
 simp only [IntKind.bits]
 rw [Nat.min_eq_left (by omega)]
theorem rotl_calls (x a : Nat) (hx : x < 4294967296) (h0 : 0 < a) (h : a < 32) (s : AS) :
  ACalls Tryz.prog Γ 257 [wV x,.v (.int .i64 (-(a : Int)))] s (fun r s'=>r = wV (Sha.rotr x a)∧s' = s):=by
 refine acalls_body Tryz.func257 rfl Tryz.ntmps257 Tryz.results257 (by simp) ?_
 refine jA ?_
 refine jB (rot_count a h0 h) ?_
 refine jB (Ai @nat_not_neg (Ai (rot_sub a h0 h) (rot_val x a hx h0 h))) ?_
 refine jI ?_
 exact ⟨_,s,AV.weak.refl _,AS.le.refl s,rfl,rfl⟩
theorem turned_calls (x a b c : Nat) (hx : x < 4294967296) (ha0 : 0 < a) (ha : a < 32) (hb0 : 0 < b) (hb : b < 32) (hc0 : 0 < c) (hc : c < 32) (s : AS) :
  ACalls Tryz.prog Γ 234 [wV x,.v (.int .i64 (a : Int)),.v (.int .i64 (b : Int)),.v (.int .i64 (c : Int))] s (fun r s'=>r = wV (Sha.sig3 x a b c)∧s' = s):=by
 refine acalls_body Tryz.func234 rfl Tryz.ntmps234 Tryz.results234 (by simp) ?_
 refine jA ?_
 refine jS (neg_i64 a ha) fun K hK=>?_
 refine acallk (rotl_calls x a hx ha0 ha _) ?_
 rintro r s1 ⟨rfl,rfl⟩
 simp only [↓DM,pval,DX,Nz,↓DN,Qa,Qb,Qc,Qd,Qe,Qf,Qg,Qh,reduceCtorEq,↓reduceIte,Na,Nb,Nc,Nk,Nf,Ng,Nh,Za,Zb,Zc,TT,neg_i64 b hb]
 refine acallk (rotl_calls x b hx hb0 hb _) ?_
 rintro r s2 ⟨rfl,rfl⟩
 simp only [↓DM,pval,DX,Nz,↓DN,Qa,Qb,Qc,Qd,Qe,Qf,Qg,Qh,reduceCtorEq,↓reduceIte,Na,Nb,Nc,Nk,Nf,Ng,Nh,Za,Zb,Zc,TT,neg_i64 c hc,wxor _ _ (Sha.rotr_lt a hx) (Sha.rotr_lt b hx)]
 refine acallk (rotl_calls x c hx hc0 hc _) ?_
 rintro r s3 ⟨rfl,rfl⟩
 refine jV (wxor _ _ (Nat.xor_lt_two_pow (n:=32) (Sha.rotr_lt a hx) (Sha.rotr_lt b hx)) (Sha.rotr_lt c hx)) hK ?_;clear hK K
 exact jJ
theorem shifted_calls (x a b c : Nat) (hx : x < 4294967296) (ha0 : 0 < a) (ha : a < 32) (hb0 : 0 < b) (hb : b < 32) (hc0 : 0 < c) (hc : c < 32) (s : AS) :
  ACalls Tryz.prog Γ 256 [wV x,.v (.int .i64 (a : Int)),.v (.int .i64 (b : Int)),.v (.int .i64 (c : Int))] s (fun r s'=>r = wV (Sha.sig2 x a b c)∧s' = s):=by
 refine acalls_body Tryz.func256 rfl Tryz.ntmps256 Tryz.results256 (by simp) ?_
 refine jA ?_
 refine awp_drw_seq T.mixed [3,7] (by kernel_rfl) ?_
 intro K hK
 simp only [↓DM,pval,DX,Nz,↓DN,Qa,Qb,Qc,Qd,Qe,Qf,Qg,Qh,reduceCtorEq,↓reduceIte,Na,Nb,Nc,Nk,Nf,Ng,Nh,Za,Zb,Zc,TT,neg_i64 a ha]
 refine acallk (rotl_calls x a hx ha0 ha _) ?_
 rintro r s1 ⟨rfl,rfl⟩
 simp only [↓DM,pval,DX,Nz,↓DN,Qa,Qb,Qc,Qd,Qe,Qf,Qg,Qh,reduceCtorEq,↓reduceIte,Na,Nb,Nc,Nk,Nf,Ng,Nh,Za,Zb,Zc,TT,neg_i64 b hb]
 refine acallk (rotl_calls x b hx hb0 hb _) ?_
 rintro r s2 ⟨rfl,rfl⟩
 refine jV (Ai (wxor _ _ (Sha.rotr_lt a hx) (Sha.rotr_lt b hx)) (Ai @nat_not_neg (Ai (wshr x c hc) (wxor _ _ (Nat.xor_lt_two_pow (n:=32) (Sha.rotr_lt a hx) (Sha.rotr_lt b hx)) (Nat.lt_of_le_of_lt (Nat.div_le_self x (2 ^ c)) hx))))) hK ?_;clear hK K
 exact jJ
theorem right_sub (a : Nat) (h : a < 32) : isub .i64 32 ((a : Nat) : Int) = ((32 - a : Nat) : Int):=by
 rw [isub_i64 (by omega)]
 omega
theorem right_val (x a : Nat) (hx : x < 4294967296) (h0 : 0 < a) (h : a < 32) : ior .u32 (ishr .u32 (x : Int) ((a : Nat) : Int)) (ishl .u32 (x : Int) ((32 - a : Nat) : Int)) = ((Sha.rotr x a : Nat) : Int):=by
 rw [wshl x (32 - a) (by omega),wshr x a h,wor _ _ (Nat.lt_of_le_of_lt (Nat.div_le_self _ _) hx) (Nat.mod_lt _ (by decide)),Sha.rotr]
theorem right_calls (x a : Nat) (hx : x < 4294967296) (h0 : 0 < a) (h : a < 32) (s : AS) :
  ACalls Tryz.prog Γ 181 [wV x,.v (.int .i64 (a : Int))] s (fun r s'=>r = wV (Sha.rotr x a)∧s' = s):=by
 refine acalls_body Tryz.func181 rfl Tryz.ntmps181 Tryz.results181 (by simp) ?_
 refine jA ?_
 refine awp_drw_seq T.mixed [] (by kernel_rfl) ?_
 intro K hK
 refine jV (Ai @nat_not_neg (Ai (right_sub a h) (right_val x a hx h0 h))) hK ?_;clear hK K
 refine jI ?_
 exact ⟨_,s,AV.weak.refl _,AS.le.refl s,rfl,rfl⟩
theorem refK_calls (s : AS) :
  ACalls Tryz.prog Γ 179 [] s (fun r s'=>r = .sl 1 64 (Sha.K.map wV) .no∧s' = s):=by
 refine acalls_body Tryz.func179 rfl Tryz.ntmps179 Tryz.results179 (by simp) ?_
 refine jA ?_
 refine jA ?_
 refine jI ?_
 exact ⟨_,s,AV.weak_sl rfl,AS.le.refl s,rfl,rfl⟩
end Go.Proofs.YtfjlmkifiihgkaaGreatDoor
namespace Go.Proofs.YtfjlmkifiihgkaaGreatDoor
open Go Go.AM Go.Proofs
variable {Γ : Nat→List AV}
def row (c : List UInt8) (i : Nat) : List AV:=(Sha.sch c i).map wV ++ List.replicate (64 - i) (wV 0)
theorem row_zero (c : List UInt8) : row c 0 = List.replicate 64 (wV 0):=rfl
theorem row_full (c : List UInt8) : row c 64 = (Sha.sch c 64).map wV:=by simp [row]
theorem row_len (c : List UInt8) (i : Nat) (h : i≤64) : (row c i).length = 64:=by
 simp [row,Sha.sch_length]; omega
theorem drop_cons {α : Type} (l : List α) (j : Nat) (x : α) (h : l[j]? = some x) : List.drop j l = x :: List.drop (j + 1) l:=by
 obtain ⟨h1,h2⟩:=List.getElem?_eq_some_iff.1 h
 rw [List.drop_eq_getElem_cons h1,h2]
theorem row_drop (c : List UInt8) (i j : Nat) (h : j < i) : List.drop j (row c i) = wV ((Sha.sch c i).getD j 0) :: List.drop (j + 1) (row c i):=by
 apply drop_cons
 have hl : j < (Sha.sch c i).length:=by rw [Sha.sch_length]; exact h
 rw [row,List.getElem?_append_left (by simpa using hl),List.getElem?_map,List.getElem?_eq_getElem hl]
 simp [List.getD,List.getElem?_eq_getElem hl]
def rowP (c : List UInt8) (i v : Nat) : List AV:=(row c i).set i (wV v)
theorem rowP_zero (c : List UInt8) (i : Nat) (h : i < 64) : rowP c i 0 = row c i:=by
 unfold rowP
 apply List.ext_getElem?
 intro k
 by_cases e : k = i
 ·subst e
  rw [List.getElem?_set_self (by rw [row_len c k (by omega)]; exact h),row,List.getElem?_append_right (by simp [Sha.sch_length])]
  simp [Sha.sch_length,List.getElem?_replicate]
  omega
 ·rw [List.getElem?_set_ne (by omega)]
theorem rowP_drop (c : List UInt8) (i v : Nat) (h : i < 64) : List.drop i (rowP c i v) = wV v :: List.drop (i + 1) (rowP c i v):=by
 apply drop_cons
 rw [rowP,List.getElem?_set_self (by rw [row_len c i (by omega)]; exact h)]
theorem rowP_set (c : List UInt8) (i v u : Nat) : (rowP c i v).set i (wV u) = rowP c i u:=by simp [rowP]
theorem rowP_len (c : List UInt8) (i v : Nat) (h : i≤64) : (rowP c i v).length = 64:=by simp [rowP,row_len c i h]
theorem row_set (c : List UInt8) (i : Nat) (h : i < 64) : (row c i).set i (wV (Sha.word c (Sha.sch c i) i)) = row c (i + 1):=by
 apply List.ext_getElem?
 intro k
 by_cases e : k = i
 ·subst e
  rw [List.getElem?_set_self (by rw [row_len c k (by omega)]; exact h),row,List.getElem?_append_left (by simp [Sha.sch_length])]
  simp [Sha.sch,Sha.sch_length,List.getElem?_append_right]
 ·rw [List.getElem?_set_ne (by omega),row,row]
  by_cases hk : k < i
  ·rw [List.getElem?_append_left (by simp [Sha.sch_length]; omega),List.getElem?_append_left (by simp [Sha.sch_length]; omega)]
   simp [Sha.sch,List.getElem?_append_left,Sha.sch_length,hk]
  ·rw [List.getElem?_append_right (by simp [Sha.sch_length]; omega),List.getElem?_append_right (by simp [Sha.sch_length]; omega)]
   simp only [List.length_map,Sha.sch_length,List.getElem?_replicate]
   by_cases h2 : k < 64
   ·rw [if_pos (by omega),if_pos (by omega)]
   ·rw [if_neg (by omega),if_neg (by omega)]
def partW (c : List UInt8) (i k : Nat) : Nat:=((c.drop (4 * i)).take k).foldl (fun x b=>x * 256 + b.toNat) 0
theorem partW_zero (c : List UInt8) (i : Nat) : partW c i 0 = 0:=rfl
theorem partW_succ (c : List UInt8) (i k : Nat) (b : UInt8) (h : c[4 * i + k]? = some b) : partW c i (k + 1) = partW c i k * 256 + b.toNat:=by
 unfold partW
 have : (c.drop (4 * i))[k]? = some b:=by rw [List.getElem?_drop]; exact h
 obtain ⟨h1,h2⟩:=List.getElem?_eq_some_iff.1 this
 rw [List.take_succ_eq_append_getElem h1,List.foldl_append,h2]
 rfl
theorem partW_lt (c : List UInt8) (i k : Nat) (hk : k≤3) : partW c i k < 16777216:=by
 have key : ∀ (l : List UInt8) (x : Nat),l.foldl (fun x b=>x * 256 + b.toNat) x < (x + 1) * 256 ^ l.length:=by
  intro l
  induction l with
  | nil=>intro x; simp
  | cons b l ih =>
   intro x
   rw [List.foldl_cons]
   have h1:=ih (x * 256 + b.toNat)
   have hb:=b.toNat_lt
   have h2 : (x * 256 + b.toNat + 1) * 256 ^ l.length≤((x + 1) * 256) * 256 ^ l.length:=Nat.mul_le_mul_right _ (by omega)
   rw [List.length_cons,Nat.pow_succ,Nat.mul_comm (256 ^ l.length),← Nat.mul_assoc]
   omega
 have h:=key ((c.drop (4 * i)).take k) 0
 have hl : ((c.drop (4 * i)).take k).length≤3:=by simp; omega
 have : 256 ^ ((c.drop (4 * i)).take k).length≤256 ^ 3:=Nat.pow_le_pow_right (by decide) hl
 unfold partW
 omega
theorem partW_word (c : List UInt8) (p : List Nat) (i : Nat) (hi : i < 16) (hc : c.length = 64) : partW c i 4 = Sha.word c p i:=by
 have g : ∀ j,j < 4→c[4 * i + j]? = some (c.getD (4 * i + j) 0):=fun j hj=>by
  rw [List.getD_eq_getElem?_getD,List.getElem?_eq_getElem (by omega)]
  rfl
 rw [partW_succ c i 3 _ (g 3 (by omega)),partW_succ c i 2 _ (g 2 (by omega)),partW_succ c i 1 _ (g 1 (by omega)),partW_succ c i 0 _ (g 0 (by omega)),partW_zero]
 unfold Sha.word
 rw [if_pos hi]
 simp only [Sha.be32,Nat.add_zero,Nat.zero_mul,Nat.zero_add]
theorem w_shl8 (x : Nat) (b : UInt8) (h : x < 16777216) : ior .u32 (ishl .u32 (x : Int) 8) (iconv .u32 (b.toNat : Int)) = ((x * 256 + b.toNat : Nat) : Int):=by
 have hb:=b.toNat_lt
 rw [show (8 : Int) = ((8 : Nat) : Int) from rfl,wshl x 8 (by decide),iconv_u rfl]
 have e1 : x * 2 ^ 8 % 4294967296 = x * 256:=by omega
 have e2 : b.toNat % 2 ^ IntKind.u32.bits = b.toNat:=by simp only [IntKind.bits]; omega
 rw [e1,e2,wor _ _ (by omega) (by omega)]
 have:=Nat.shiftLeft_add_eq_or_of_lt (b:=b.toNat) (i:=8) (by omega) x
 rw [Nat.shiftLeft_eq] at this
 rw [show x * 256 = x * 2 ^ 8 from rfl,← this]
theorem asetAll_at : ∀ (xs cs : List AV) (off : Nat),off + xs.length≤cs.length→asetAll cs off xs = cs.take off ++ xs ++ cs.drop (off + xs.length)
 | [],cs,off,_=>by simp [asetAll]
 | x :: xs,cs,off,h=>by
  simp only [List.length_cons] at h
  rw [asetAll,asetAll_at xs _ _ (by simp; omega)]
  have e1 : List.take (off + 1) (cs.set off x) = List.take off cs ++ [x]:=by
   rw [List.take_succ_eq_append_getElem (by simp; omega)]
   simp [List.take_set_of_le]
  have e2 : List.drop (off + 1 + xs.length) (cs.set off x) = List.drop (off + (xs.length + 1)) cs:=by
   rw [List.drop_set_of_lt (by omega),show off + 1 + xs.length = off + (xs.length + 1) from by omega]
  rw [e1,e2]
  simp
theorem asetAll_whole (cs xs : List AV) (h : cs.length = xs.length) : asetAll cs 0 xs = xs:=by
 rw [asetAll_at xs cs 0 (by omega)]
 simp [← h]
theorem z138 : zcells Tryz.prog 265 = some (List.replicate 64 (wV 0)):=by kernel_rfl
theorem all_wV (l : List Nat) : (l.map wV).all AV.one = true:=by
 rw [List.all_eq_true]
 intro x hx
 obtain ⟨n,_,rfl⟩:=List.mem_map.1 hx
 rfl
theorem q64 : iquo .i64 ((64 : Nat) : Int) 4 = 16:=by decide
theorem w_succ (i : Nat) (h : i < 2 ^ 62) : iadd .i64 (i : Int) 1 = ((i + 1 : Nat) : Int):=by
 rw [iadd_i64 (by omega)]
 rfl
theorem i64_mul4 (i : Nat) (h : i < 64) : imul .i64 4 (i : Int) = ((4 * i : Nat) : Int):=by
 rw [imul_i64 (by omega)]
 omega
theorem i64_add (a b : Nat) (h : a + b < 9223372036854775808) : iadd .i64 (a : Int) (b : Int) = ((a + b : Nat) : Int):=by
 rw [iadd_i64 (by omega)]
 omega
theorem i64_add4 (a : Nat) (h : a < 2 ^ 62) : iadd .i64 (a : Int) 4 = ((a + 4 : Nat) : Int):=i64_add a 4 (by omega)
theorem i64_sub (a b : Nat) (hb : b≤a) (h : a < 9223372036854775808) : isub .i64 (a : Int) (b : Int) = ((a - b : Nat) : Int):=by
 rw [isub_i64 (by omega)]
 omega
theorem spread_calls (c : List UInt8) (hc : c.length = 64) (s : AS) :
  ACalls Tryz.prog Γ 233 [bytesV c .any] s (fun r s'=>r = .agg ((Sha.sch c 64).map wV)∧s' = s):=by
 refine acalls_body Tryz.func233 rfl Tryz.ntmps233 Tryz.results233 (by simp) ?_
 refine jS @z138 fun K hK=>?_
 intro o2 ho2
 refine hK _ _ ?_;clear hK K
 refine jS @z138 fun K hK=>?_
 intro o3 ho3
 refine hK _ _ ?_;clear hK K
 obtain ⟨h32,ho3'⟩:=AS.fresh_set ho3
 clear ho3
 rw [← row_zero c]
 refine wK fun K hK=>?_
 refine jA ?_
 refine awp_block ?_
 have hcl : (bytesV c .any : AV) = .sl 1 64 (c.map byteV) .any:=by rw [bytesV,hc]
 refine awp_loop (fun E s1=>∃ i : Nat,i≤64∧E 0 = .sl 1 64 (c.map byteV) .any∧E 2 = .ptr o2 0∧E 3 = .ptr o3 0∧E 7 = .v (.int .i64 i)∧s1 = (s.set o2 (row c 0)).set o3 (row c i))
  (fun E _=>match E 7 with | .v (.int _ i)=>64 - i.toNat | _=>0) ?_ ?_
 ·exact ⟨0,by omega,by simp [upd,initE,hc],by simp [upd],by simp [upd],by simp [upd],rfl⟩
 ·rintro E1 s1 ⟨i,hi,e0,e2,e3,e7,rfl⟩ -
  by_cases hi' : i < 64
  ·have hi2 : (i : Int) < 64:=by omega
   have hi3 : (i : Int) < ((64 : Nat) : Int):=by omega
   refine jB (Ai @e7 (decide_eq_true hi2)) ?_
   refine wK fun K2 hK2=>?_
   refine jE ?_
   refine awp_skip ?_
   refine hK2 _ _ ?_;clear hK2 K2
   refine wK fun K3 hK3=>?_
   refine awp_block ?_
   refine jB @e7 ?_
   have hnext : ∀ E4 : Env,E4 0 = .sl 1 64 (c.map byteV) .any→E4 2 = .ptr o2 0→E4 3 = .ptr o3 0→E4 7 = .v (.int .i64 i)→K3 E4 ((s.set o2 (row c 0)).set o3 (row c (i + 1))):=by
    intro E4 f0 f2 f3 f7
    refine hK3 _ _ ?_;clear hK3 K3
    refine jD (Ai @f7 (w_succ i (by omega))) ?_
    refine ⟨⟨i + 1,by omega,by simp only [upd,f0,Nc,↓reduceIte],by simp only [upd,f2,Nc,↓reduceIte],by simp only [upd,f3,Nc,↓reduceIte],by simp only [upd,↓reduceIte],rfl⟩,?_⟩
    simp only [e7,upd,↓reduceIte]
    omega
   clear hK3
   refine wK fun K4 hK4=>?_
   by_cases h16 : i < 16
   ·have hlt16 : (i : Int) < 16:=by omega
    refine jB (Ai @e0 (Ai @e7 @q64)) ?_
    refine wC fun X Y hX hY=>?_
    simp only [UP,DF,Nc,↓reduceIte,DB]
    refine ⟨fun _=>hX ?_,fun h=>absurd hlt16 h⟩
    clear hX hY X Y
    have hlo : (0 : Int)≤((4 * i : Nat) : Int):=by omega
    have hlh : ((4 * i : Nat) : Int)≤((4 * i + 4 : Nat) : Int):=by omega
    have hh64 : ((4 * i + 4 : Nat) : Int)≤((64 : Nat) : Int):=by omega
    refine wK fun K5 hK5=>?_
    refine jB (Ai @e0 (Ai @e7 (Ai (i64_mul4 i hi') (Ai (i64_add4 (4 * i) (by omega)) (Ai @hlo (Ai @hlh (Ai @hh64 @Nat.add_sub_cancel_left))))))) ?_
    refine awp_block ?_
    obtain ⟨Xs,hXs⟩ : ∃ Xs,Xs = List.map byteV (List.drop (4 * i) (List.take (4 * i + 4) c)):=⟨_,rfl⟩
    have hXk : ∀ k,k < 4→List.take 1 (List.drop k Xs) = [byteV (c.getD (4 * i + k) 0)]:=by
     intro k hk
     have : Xs[k]? = some (byteV (c.getD (4 * i + k) 0)):=by
      rw [hXs,List.getElem?_map,List.getElem?_drop,List.getElem?_take,if_pos (by omega),List.getElem?_eq_getElem (by omega)]
      simp only [Option.map_some,List.getD,List.getElem?_eq_getElem (show 4 * i + k < c.length by omega),Option.getD_some]
     rw [drop_cons _ _ _ this]
     rfl
    rw [← hXs]
    refine awp_loop (fun E s2=>∃ k : Nat,k≤4∧E 0 = .sl 1 64 (c.map byteV) .any∧E 2 = .ptr o2 0∧E 3 = .ptr o3 0∧E 7 = .v (.int .i64 i)∧E 4 = .v (.int .i64 i)∧E 21 = .sl 1 4 Xs .any∧E 22 = .v (.int .i64 4)∧E 23 = .v (.int .i64 k)∧s2 = (s.set o2 (row c 0)).set o3 (rowP c i (partW c i k)))
     (fun E _=>match E 23 with | .v (.int _ k)=>4 - k.toNat | _=>0) ?_ ?_
    ·refine ⟨0,by omega,by simp only [upd,e0,Nc,↓reduceIte],by simp only [upd,e2,Nc,↓reduceIte],by simp only [upd,e3,Nc,↓reduceIte],by simp only [upd,e7,Nc,↓reduceIte],by simp only [upd,Nc,↓reduceIte],by simp only [upd,Nc,↓reduceIte],by simp only [upd,Nc,↓reduceIte]; rfl,by simp only [upd,↓reduceIte]; rfl,by rw [partW_zero,rowP_zero c i hi']⟩
    ·rintro E2 s2 ⟨k,hk,g0,g2,g3,g7,g4,g21,g22,g23,rfl⟩ -
     by_cases hk' : k < 4
     ·have hk2 : (k : Int) < 4:=by omega
      have hk0 : (0 : Int)≤(k : Int):=by omega
      have hk3 : (k : Int) < ((4 : Nat) : Int):=by omega
      have hi0 : (0 : Int)≤(i : Int):=by omega
      refine jB (Ai @g23 (Ai @g22 (decide_eq_true hk2))) ?_
      refine wK fun K6 hK6=>?_
      refine jE ?_
      refine awp_skip ?_
      refine hK6 _ _ ?_;clear hK6 K6
      refine wK fun K7 hK7=>?_
      refine awp_block ?_
      obtain ⟨b,hb⟩ : ∃ b,b = c.getD (4 * i + k) 0:=⟨_,rfl⟩
      have hbk : c[4 * i + k]? = some b:=by
       rw [hb,List.getD_eq_getElem?_getD,List.getElem?_eq_getElem (by omega)]
       rfl
      have hXk':=hXk k hk'
      rw [← hb] at hXk'
      refine jB (Ai @g21 (Ai @g23 (Ai @hk0 (Ai @hk2 (Ai @hk3 @hXk'))))) ?_
      obtain ⟨v,hv⟩ : ∃ v,v = partW c i k:=⟨_,rfl⟩
      have hv3 : v < 16777216:=by rw [hv]; exact partW_lt c i k (by omega)
      rw [← hv]
      have hd:=rowP_drop c i v hi'
      have hset : (rowP c i v).set i (wV (v * 256 + b.toNat)) = rowP c i (partW c i (k + 1)):=by rw [rowP_set,partW_succ c i k b hbk,hv]
      have hlen:=rowP_len c i v hi
      obtain ⟨R,hR⟩ : ∃ R,R = rowP c i v:=⟨_,rfl⟩
      rw [← hR] at hd hset hlen ⊢
      refine wE fun K hK=>?_
      simp only [↓DN,Qa,Qb,Qc,Qd,Qe,Qf,Qg,Qh,reduceCtorEq,↓reduceIte,Na,Nb,Nc,Nk,Nf,Ng,Nh,Za,Zb,Zc,TT,g3,g4,hi0,hi2,hi3,hd,byteV,w_shl8 v b hv3,hset,hlen,hi']
      refine ⟨by omega,hK _ _ ?_⟩
      clear hK K
      simp only [blockQ,thenQ,if_true,if_false]
      refine hK7 _ _ ?_;clear hK7 K7
      refine jD (Ai @g23 (w_succ k (by omega))) ?_
      refine ⟨⟨k + 1,by omega,by simp only [upd,g0,Nc,↓reduceIte],by simp only [upd,g2,Nc,↓reduceIte],by simp only [upd,g3,Nc,↓reduceIte],by simp only [upd,g7,Nc,↓reduceIte],by simp only [upd,g4,Nc,↓reduceIte],by simp only [upd,g21,Nc,↓reduceIte],by simp only [upd,g22,Nc,↓reduceIte],by simp only [upd,↓reduceIte],rfl⟩,?_⟩
      simp only [g23,upd,↓reduceIte]
      omega
     ·have hk2 : ¬ (k : Int) < 4:=by omega
      obtain rfl : k = 4:=by omega
      refine jB (Ai @g23 (Ai @g22 (decide_eq_false hk2))) ?_
      refine wK fun K6 hK6=>?_
      refine jF ?_
      refine awp_exit ?_
      simp only [thenQ,blockQ,if_true]
      clear hK6 K6
      refine hK5 _ _ ?_;clear hK5 K5
      refine awp_exit ?_
      simp only [thenQ,blockQ,if_true]
      rw [partW_word c (Sha.sch c i) i h16 hc]
      have : rowP c i (Sha.word c (Sha.sch c i) i) = row c (i + 1):=row_set c i hi'
      rw [this]
      exact hnext _ (by simp only [upd,g0,Nc,↓reduceIte]) (by simp only [upd,g2,Nc,↓reduceIte]) (by simp only [upd,g3,Nc,↓reduceIte]) (by simp only [upd,g7,Nc,↓reduceIte])
   ·have hlt16 : ¬ (i : Int) < 16:=by omega
    have hi0 : (0 : Int)≤(i : Int):=by omega
    refine jB (Ai @e0 (Ai @e7 @q64)) ?_
    refine wC fun X Y hX hY=>?_
    simp only [UP,DF,Nc,↓reduceIte,DB]
    refine ⟨fun h=>absurd h hlt16,fun _=>hY ?_⟩
    clear hX hY X Y
    refine awp_skip ?_
    refine hK4 _ _ ?_;clear hK4 K4
    have n2 : (0 : Int)≤((i - 2 : Nat) : Int):=by omega
    have n7 : (0 : Int)≤((i - 7 : Nat) : Int):=by omega
    have n15 : (0 : Int)≤((i - 15 : Nat) : Int):=by omega
    have n16 : (0 : Int)≤((i - 16 : Nat) : Int):=by omega
    have m2 : ((i - 2 : Nat) : Int) < ((64 : Nat) : Int):=by omega
    have m7 : ((i - 7 : Nat) : Int) < ((64 : Nat) : Int):=by omega
    have m15 : ((i - 15 : Nat) : Int) < ((64 : Nat) : Int):=by omega
    have m16 : ((i - 16 : Nat) : Int) < ((64 : Nat) : Int):=by omega
    have s2 : isub .i64 (i : Int) 2 = ((i - 2 : Nat) : Int):=i64_sub i 2 (by omega) (by omega)
    have s7 : isub .i64 (i : Int) 7 = ((i - 7 : Nat) : Int):=i64_sub i 7 (by omega) (by omega)
    have s15 : isub .i64 (i : Int) 15 = ((i - 15 : Nat) : Int):=i64_sub i 15 (by omega) (by omega)
    have s16 : isub .i64 (i : Int) 16 = ((i - 16 : Nat) : Int):=i64_sub i 16 (by omega) (by omega)
    have d2:=row_drop c i (i - 2) (by omega)
    have d7:=row_drop c i (i - 7) (by omega)
    have d15:=row_drop c i (i - 15) (by omega)
    have d16:=row_drop c i (i - 16) (by omega)
    have hw : Sha.word c (Sha.sch c i) i = Sha.add32 (Sha.add32 (Sha.add32 (Sha.sig2 ((Sha.sch c i).getD (i - 2) 0) 17 19 10) ((Sha.sch c i).getD (i - 7) 0)) (Sha.sig2 ((Sha.sch c i).getD (i - 15) 0) 7 18 3)) ((Sha.sch c i).getD (i - 16) 0):=by rw [Sha.word,if_neg h16]
    have hset:=row_set c i hi'
    rw [hw] at hset
    have hlen:=row_len c i hi
    have l2:=Sha.sch_getD_lt c i (i - 2)
    have l15:=Sha.sch_getD_lt c i (i - 15)
    generalize (Sha.sch c i).getD (i - 2) 0 = x2 at *
    generalize (Sha.sch c i).getD (i - 7) 0 = x7 at *
    generalize (Sha.sch c i).getD (i - 15) 0 = x15 at *
    generalize (Sha.sch c i).getD (i - 16) 0 = x16 at *
    obtain ⟨R,hR⟩ : ∃ R,R = row c i:=⟨_,rfl⟩
    rw [← hR] at d2 d7 d15 d16 hset hlen ⊢
    refine awp_mrk_end T.mixed [(o3,R)] [5,15] [4,9,14,20] [23] (by kernel_rfl) (by simp only [Pres_cons,Pres_nil,and_true]; simp [AS.set,upd]) ?_
    intro K hK
    simp only [↓AXr_nil,↓AXr_cons,gval,lval,fzGet_cons,fzGet_nil,Pres_cons,Pres_nil,List.any_cons,List.any_nil,List.contains_cons,List.contains_nil,Nat.reduceBEq,Bool.or_false,Bool.or_true,Bool.or_self,Bool.false_or,↓DN,Qa,Qb,Qc,Qd,Qe,Qf,Qg,Qh,reduceCtorEq,↓reduceIte,Na,Nb,Nc,Nk,Nf,Ng,Nh,Za,Zb,Zc,TT,e3,e7,hi0,hi3,n2,n7,n15,n16,m2,m7,m15,m16,s2,s7,s15,s16,d2,d7,d15,d16,h32]
    refine acallk (shifted_calls x2 17 19 10 l2 (by omega) (by omega) (by omega) (by omega) (by omega) (by omega) _) ?_
    rintro r sa ⟨rfl,rfl⟩
    simp only [↓AXq_nil,↓AXq_cons,pval,↓AXr_nil,↓AXr_cons,gval,lval,fzGet_cons,fzGet_nil,Pres_cons,Pres_nil,List.any_cons,List.any_nil,DX,Nat.reduceBEq,↓DN,Qa,Qb,Qc,Qd,Qe,Qf,Qg,Qh,reduceCtorEq,↓reduceIte,Na,Nb,Nc,Nk,Nf,Ng,Nh,Za,Zb,Zc,TT,e3,e7,hi0,hi3,n2,n7,n15,n16,m2,m7,m15,m16,s2,s7,s15,s16,d2,d7,d15,d16,h32,wadd]
    refine acallk (shifted_calls x15 7 18 3 l15 (by omega) (by omega) (by omega) (by omega) (by omega) (by omega) _) ?_
    rintro r sb ⟨rfl,rfl⟩
    simp only [↓AXq_nil,↓AXq_cons,pval,↓AXr_nil,↓AXr_cons,gval,lval,fzGet_cons,fzGet_nil,Pres_cons,Pres_nil,List.any_cons,List.any_nil,DX,Nat.reduceBEq,↓DN,Qa,Qb,Qc,Qd,Qe,Qf,Qg,Qh,reduceCtorEq,↓reduceIte,Na,Nb,Nc,Nk,Nf,Ng,Nh,Za,Zb,Zc,TT,e3,e7,hi0,hi3,n2,n7,n15,n16,m2,m7,m15,m16,s2,s7,s15,s16,d2,d7,d15,d16,h32,wadd,hset,hlen]
    refine ⟨by omega,hK _ _ ?_⟩
    clear hK K
    simp only [blockQ,thenQ,if_true,if_false]
    exact hnext _ (by simp only [upd,e0,Nc,↓reduceIte]) (by simp only [upd,e2,Nc,↓reduceIte]) (by simp only [upd,e3,Nc,↓reduceIte]) (by simp only [upd,e7,Nc,↓reduceIte])
  ·have hi2 : ¬ (i : Int) < 64:=by omega
   obtain rfl : i = 64:=by omega
   refine jB (Ai @e7 (decide_eq_false hi2)) ?_
   refine wK fun K2 hK2=>?_
   refine jF ?_
   refine awp_exit ?_
   simp only [thenQ,blockQ,if_true]
   clear hK2 K2
   refine hK _ _ ?_;clear hK K
   rw [row_full c]
   have hwl : ((Sha.sch c 64).map wV).length = 64:=by simp [Sha.sch_length]
   have hall:=all_wV (Sha.sch c 64)
   have htk : List.take 64 ((Sha.sch c 64).map wV) = (Sha.sch c 64).map wV:=List.take_of_length_le (by omega)
   obtain ⟨X,hX⟩ : ∃ X,X = (Sha.sch c 64).map wV:=⟨_,rfl⟩
   rw [← hX] at hwl hall htk ⊢
   refine jS (Ai @e2 (Ai @e3 (Ai @hwl (Ai @htk (Ai @hall (Ai @h32 @h32.symm)))))) fun K hK=>?_
   have hr0 : (row c 0).length = 64:=row_len c 0 (by omega)
   rw [asetAll_whole (row c 0) X (by omega)]
   refine ⟨by omega,hK _ _ ?_⟩
   clear hK K
   refine awp_ret ?_
   refine aends_cell (v:=.agg X) (o:=o2) (off:=0) (by simp only [upd,e2,Nc,↓reduceIte]) (AS.set_objs_same _ _ _) (by rw [T.c265]; decide) (by simp only [↓DN,Qa,Qb,Qc,Qd,Qe,Qf,Qg,Qh,reduceCtorEq,↓reduceIte,Na,Nb,Nc,Nk,Nf,Ng,Nh,Za,Zb,Zc,TT,hwl,htk]) ?_
   exact ⟨_,s,AV.weak.refl _,AS.le_set (AS.le_set (AS.le_set (AS.le.refl s) ho2 _) ho3' _) ho2 _,rfl,rfl⟩
end Go.Proofs.YtfjlmkifiihgkaaGreatDoor
