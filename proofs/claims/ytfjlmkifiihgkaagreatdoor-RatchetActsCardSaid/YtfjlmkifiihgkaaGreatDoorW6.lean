/- Contracts of the program's functions, each walked once; the conditions stand in each theorem. -/
import Derived.Test.YtfjlmkifiihgkaaGreatDoorAMp6
import Derived.Test.YtfjlmkifiihgkaaGreatDoorW1
import Derived.Test.YtfjlmkifiihgkaaGreatDoorW5
import Derived.Test.YtfjlmkifiihgkaaGreatDoorW4
import Derived.Test.YtfjlmkifiihgkaaGreatDoorAMp5
set_option linter.unusedSimpArgs false
set_option linter.unusedVariables false
open Nat renaming reduceLT → Na, reduceLeDiff → Nb, reduceEqDiff → Nc, reduceAdd → Nk, reduceMul → Nf, reducePow → Ng, reduceSub → Nh, reduceBEq → Nz
open Int renaming reduceLT → Za, reduceLE → Zb, reduceToNat → Zc
open And renaming intro → Ai
open Go.AM renaming ashift → Qa, aconv → Qb, aindexAddr → Qc, aindex → Qd, aslice → Qe, abuiltin → Qf, awp_reg_seq → wS, awp_reg_end → wE, awp_seq_k → wK, awp_cond_k → wC
open Go.AM.AV renaming cells → Qg, one → Qh
set_option maxRecDepth 100000
set_option maxHeartbeats 8000000
set_option autoImplicit false
namespace Go.Proofs.YtfjlmkifiihgkaaGreatDoor
open Go Go.AM Go.Proofs
variable {Γ : Nat→List AV}
theorem strEq {a b : List UInt8} (h : a = b) : (a == b) = true:=by simpa using h
theorem strNe {a b : List UInt8} (h : a≠b) : (a == b) = false:=by simpa using h
theorem refCount_calls (t : List NodeV) (ht : t.length≤2 ^ 61) (a k : Nat) (hak : a + k < 2 ^ 61) (s : AS) : ACalls Tryz.prog Γ 75 [treeV t,.v (.int .i64 a),.v (.int .i64 (((a + k : Nat) : Int) - 1))] s (fun r s'=>r = .v (.int .i64 (cntN (memR t) a k))∧s' = s):=by
 refine acalls_body Tryz.func75 rfl Tryz.ntmps75 Tryz.results75 (by simp) ?_
 have hm:=fun i s=>refMember_calls (Γ:=Γ) t ht i s
 unfold treeV at hm ⊢
 generalize rowC NodeV.cells t = X at *
 refine jA ?_
 refine jA ?_
 refine wK fun K hK=>?_
 refine jA ?_
 refine awp_block ?_
 refine awp_loop (fun E s2=>∃ i : Nat,i≤k∧E 8 = .v (.int .i64 ((a + i : Nat) : Int))∧E 7 = .v (.int .i64 (cntN (memR t) a i))∧E 0 = .sl 5 t.length X .any∧E 2 = .v (.int .i64 (((a + k : Nat) : Int) - 1))∧s2 = s)
  (fun E _=>match E 8 with | .v (.int _ i)=>a + k - i.toNat | _=>0) ?_ ?_
 ·exact ⟨0,Nat.zero_le _,by simp only [upd,Nc,↓reduceIte]; rfl,by simp only [upd,Nc,↓reduceIte]; rfl,by simp only [upd,initE,List.getD_cons_zero,List.getD_cons_succ,Nc,↓reduceIte],by simp only [upd,initE,List.getD_cons_zero,List.getD_cons_succ,Nc,↓reduceIte],rfl⟩
 ·rintro E1 s2 ⟨i,hi,g8,g7,g0,g2,rfl⟩ -
  refine wK fun K2 hK2=>?_
  by_cases hi' : i < k
  ·have h1 : decide (((a + i : Nat) : Int)≤((a + k : Nat) : Int) - 1) = true:=decide_eq_true (by omega)
   refine jB (Ai @g8 (Ai @g2 @h1)) ?_
   refine jE ?_
   refine awp_skip ?_
   refine hK2 _ _ ?_;clear hK2 K2
   refine wK fun K3 hK3=>?_
   refine awp_block ?_
   have hend : ∀ (E : Env),E 8 = .v (.int .i64 ((a + i : Nat) : Int))→E 7 = .v (.int .i64 (cntN (memR t) a (i + 1)))→E 0 = .sl 5 t.length X .any→E 2 = .v (.int .i64 (((a + k : Nat) : Int) - 1))→K3 E s2:=by
    intro E f8 f7 f0 f2
    refine hK3 _ _ ?_;clear hK3 K3
    refine jD (Ai @f8 (eye_succM (a + i) (by omega))) ?_
    refine ⟨⟨i + 1,hi',by simp only [upd,Nc,↓reduceIte]; rfl,by simp only [upd,f7,Nc,↓reduceIte],by simp only [upd,f0,Nc,↓reduceIte],by simp only [upd,f2,Nc,↓reduceIte],rfl⟩,?_⟩
    simp only [g8,upd,↓reduceIte]
    omega
   clear hK3
   refine jS (Ai @g0 @g8) fun K hK=>?_
   refine acallk (hm _ _) ?_
   rintro r s3 ⟨rfl,rfl⟩
   have hc:=cntN_le (memR t) a i
   by_cases hp : memR t ((a + i : Nat) : Int)
   ·rw [decide_eq_true hp]
    refine jR hK ?_;clear hK K
    refine jE ?_
    refine jD (Ai @g7 (eye_succM (cntN (memR t) a i) (by omega))) ?_
    refine hend _ (by simp only [upd,g8,Nc,↓reduceIte]) ?_ (by simp only [upd,g0,Nc,↓reduceIte]) (by simp only [upd,g2,Nc,↓reduceIte])
    have : cntN (memR t) a (i + 1) = cntN (memR t) a i + 1:=by simp only [cntN]; rw [if_pos hp]
    rw [this]
    simp only [upd,Nc,↓reduceIte]
   ·rw [decide_eq_false hp]
    refine jR hK ?_;clear hK K
    refine jF ?_
    refine awp_skip ?_
    refine hend _ (by simp only [upd,g8,Nc,↓reduceIte]) ?_ (by simp only [upd,g0,Nc,↓reduceIte]) (by simp only [upd,g2,Nc,↓reduceIte])
    have : cntN (memR t) a (i + 1) = cntN (memR t) a i:=by simp only [cntN]; rw [if_neg hp]; omega
    rw [this]
    simp only [upd,g7,Nc,↓reduceIte]
  ·have h1 : decide (((a + i : Nat) : Int)≤((a + k : Nat) : Int) - 1) = false:=decide_eq_false (by omega)
   refine jB (Ai @g8 (Ai @g2 @h1)) ?_
   refine jF ?_
   refine awp_exit ?_
   simp only [thenQ,blockQ,if_true]
   refine hK _ _ ?_;clear hK hK2 K2 K
   obtain rfl : i = k:=by omega
   refine jB @g7 ?_
   exact jJ
theorem refNamed_calls (t : List NodeV) (ht : t.length≤2 ^ 61) (name : List UInt8) (s : AS) : ACalls Tryz.prog Γ 72 [treeV t,.v (.string ⟨name.toArray⟩)] s (fun r s'=>r = .v (.int .i64 (namedR t name))∧s' = s):=by
 refine acalls_body Tryz.func72 rfl Tryz.ntmps72 Tryz.results72 (by simp) ?_
 have hm:=fun i s=>refMember_calls (Γ:=Γ) t ht i s
 have hat:=fun i (h : i < t.length)=>node_at (t:=t) h
 obtain ⟨Q,hQ⟩ : ∃ Q : Nat→Bool,Q = fun (j : Nat)=>decide (memR t (j : Int)∧(nd t (2 * j)).name = name):=⟨_,rfl⟩
 have hres : namedR t name = firstN Q (hlf t - 0) 0:=by rw [hQ]; rfl
 unfold treeV at hm ⊢
 generalize rowC NodeV.cells t = X at *
 refine jA ?_
 refine wK fun K hK=>?_
 refine jA ?_
 refine awp_block ?_
 refine awp_loop (fun E s2=>∃ i : Nat,i≤2 ^ 61∧firstN Q (hlf t - i) i = firstN Q (hlf t - 0) 0∧E 5 = .v (.int .i64 i)∧E 0 = .sl 5 t.length X .any∧E 1 = .v (.string ⟨name.toArray⟩)∧s2 = s)
  (fun E _=>match E 5 with | .v (.int _ i)=>hlf t - i.toNat | _=>0) ?_ ?_
 ·exact ⟨0,by omega,rfl,by simp only [upd,Nc,↓reduceIte]; rfl,by simp only [upd,initE,List.getD_cons_zero,List.getD_cons_succ,Nc,↓reduceIte],by simp only [upd,initE,List.getD_cons_zero,List.getD_cons_succ,Nc,↓reduceIte],rfl⟩
 ·rintro E1 s2 ⟨i,hi,hf,g7,g0,g1,rfl⟩ -
  refine wK fun K2 hK2=>?_
  by_cases hi' : i < hlf t
  ·have hi2 : 2 * i < t.length:=hlf_lt.1 hi'
   refine jB (Ai @g7 (Ai @g0 (Ai (imul2_nat i (by omega)) (Ai @eye_lt_nat (decide_eq_true hi2))))) ?_
   refine jE ?_
   refine awp_skip ?_
   refine hK2 _ _ ?_;clear hK2 K2
   refine wK fun K3 hK3=>?_
   refine awp_block ?_
   obtain ⟨k,hk⟩ : ∃ k,hlf t - i = k + 1:=⟨hlf t - i - 1,by omega⟩
   have hk' : hlf t - (i + 1) = k:=by omega
   rw [hk] at hf
   have hQi : Q i = decide (memR t i∧(nd t (2 * i)).name = name):=by rw [hQ]
   have hend : ∀ (E : Env),Q i = false→E 5 = .v (.int .i64 i)→E 0 = .sl 5 t.length X .any→E 1 = .v (.string ⟨name.toArray⟩)→K3 E s2:=by
    intro E hq f7 f0 f1
    refine hK3 _ _ ?_;clear hK3 K3
    refine jD (Ai @f7 (eye_succM i (by omega))) ?_
    refine ⟨⟨i + 1,by omega,by rw [hk',← hf,firstN_step hq],by simp only [upd,Nc,↓reduceIte],by simp only [upd,f0,Nc,↓reduceIte],by simp only [upd,f1,Nc,↓reduceIte],rfl⟩,?_⟩
    simp only [g7,upd,↓reduceIte]
    omega
   clear hK3
   have hat':=hat (2 * i) hi2
   generalize nd t (2 * i) = N at *
   obtain ⟨nk,nm,ny,npa,nu⟩:=N
   unfold NodeV.cells at hat'
   simp only at hQi
   have hge : (0 : Int)≤((2 * i : Nat) : Int):=by omega
   refine jS (Ai @g0 @g7) fun K hK=>?_
   refine acallk (hm _ _) ?_
   rintro r s3 ⟨rfl,rfl⟩
   by_cases hp : memR t (i : Int)
   ·rw [decide_eq_true hp]
    by_cases hn : nm = name
    ·rw [decide_eq_true ⟨hp,hn⟩] at hQi
     refine jV (Ai @g0 (Ai @g7 (Ai @g1 (Ai (imul2_nat i (by omega)) (Ai @eye_lt_nat (Ai @hi2 (Ai @hge (Ai @hat' (strEq hn))))))))) hK ?_;clear hK K
     refine jE ?_
     refine jB @g7 ?_
     refine jI ?_
     rw [hres,← hf,firstN_here hQi]
     exact ⟨_,_,AV.weak.refl _,AS.le.refl _,rfl,rfl⟩
    ·rw [decide_eq_false (fun q=>hn q.2)] at hQi
     refine jV (Ai @g0 (Ai @g7 (Ai @g1 (Ai (imul2_nat i (by omega)) (Ai @eye_lt_nat (Ai @hi2 (Ai @hge (Ai @hat' (strNe hn))))))))) hK ?_;clear hK K
     refine jF ?_
     refine awp_skip ?_
     exact hend _ hQi (by simp only [upd,g7,Nc,↓reduceIte]) (by simp only [upd,g0,Nc,↓reduceIte]) (by simp only [upd,g1,Nc,↓reduceIte])
   ·rw [decide_eq_false hp]
    rw [decide_eq_false (fun q=>hp q.1)] at hQi
    refine jR hK ?_;clear hK K
    refine jF ?_
    refine awp_skip ?_
    exact hend _ hQi (by simp only [upd,g7,Nc,↓reduceIte]) (by simp only [upd,g0,Nc,↓reduceIte]) (by simp only [upd,g1,Nc,↓reduceIte])
  ·have hi2 : ¬ 2 * i < t.length:=fun h=>hi' (hlf_lt.2 h)
   refine jB (Ai @g7 (Ai @g0 (Ai (imul2_nat i (by omega)) (Ai @eye_lt_nat (decide_eq_false hi2))))) ?_
   refine jF ?_
   refine awp_exit ?_
   simp only [thenQ,blockQ,if_true]
   refine hK _ _ ?_;clear hK hK2 K2 K
   rw [show hlf t - i = 0 by omega] at hf
   refine jA ?_
   refine jI ?_
   rw [hres,← hf]
   exact ⟨_,_,AV.weak.refl _,AS.le.refl _,rfl,rfl⟩
end Go.Proofs.YtfjlmkifiihgkaaGreatDoor
namespace Go.Proofs.YtfjlmkifiihgkaaGreatDoor
open Go Go.AM Go.Proofs
variable {Γ : Nat→List AV}
theorem rightT_R {t : List NodeV} : rightT t↔lvs t≠0∧(∀ i,i < t.length→goodR t i)∧(lvs t = 1∨0 < cntN (memR t) (lvs t / 2) (lvs t - lvs t / 2)):=by
 unfold rightT
 constructor
 ·rintro ⟨a,b,c⟩
  exact ⟨a,(good_iff a).2 b,c.imp id fun q=>by rw [cntN_congr (memR_iff a)]; exact q⟩
 ·rintro ⟨a,b,c⟩
  exact ⟨a,(good_iff a).1 b,c.imp id fun q=>by rw [← cntN_congr (memR_iff a)]; exact q⟩
theorem refRight20_calls (t : List NodeV) (ht : TreeW t) (s : AS) : ACalls Tryz.prog Γ 17 [treeV t] s (fun r s'=>r = .v (.bool (decide (rightT t)))∧s' = s):=by
 refine acalls_body Tryz.func17 rfl Tryz.ntmps17 Tryz.results17 (by simp) ?_
 have htl:=ht.1
 have hlc:=fun s=>refLeaves_calls (Γ:=Γ) t htl s
 have hmc:=fun i s=>refMember_calls (Γ:=Γ) t htl i s
 have hnc:=fun name s=>refNamed_calls (Γ:=Γ) t htl name s
 have hcc:=fun a k h s=>refCount_calls (Γ:=Γ) t htl a k h s
 have hrn:=fun i s=>refRight19_calls (Γ:=Γ) (nd t i) (ht.nd i).1 s
 have hul:=fun i=>(ht.nd i).1
 have hat:=fun i (h : i < t.length)=>node_at (t:=t) h
 have hlv:=lvs_le t
 have h0len : lvs t≠0→t.length = 2 * lvs t - 1:=fun h=>(lvs_zero_or.resolve_left h).2
 have hno0 : lvs t = 0→decide (rightT t) = false:=fun h=>decide_eq_false fun k=>k.1 h
 have hnoi : ∀ i,i < t.length→¬ goodR t i→decide (rightT t) = false:=fun i h1 h2=>decide_eq_false fun k=>h2 ((rightT_R.1 k).2.1 i h1)
 have hfin : lvs t≠0→(∀ i,i < t.length→goodR t i)→decide (rightT t) = (((lvs t : Int) == 1) || decide ((0 : Int) < (cntN (memR t) (lvs t / 2) (lvs t - lvs t / 2) : Int))):=by
  intro h1 h2
  rw [Bool.eq_iff_iff,decide_eq_true_iff,Bool.or_eq_true,beq_iff_eq,decide_eq_true_iff,rightT_R]
  constructor
  ·rintro ⟨_,_,h3⟩
   exact h3.imp (fun q=>by omega) (fun q=>by omega)
  ·intro h3
   exact ⟨h1,h2,h3.imp (fun q=>by omega) (fun q=>by omega)⟩
 unfold treeV at *
 generalize rowC NodeV.cells t = X at *
 generalize decide (rightT t) = RES at *
 refine jA ?_
 refine jK (hlc _) ?_;rintro s1 rfl
 refine wK fun K hK=>?_
 by_cases hz : lvs t = 0
 ·refine jB (nat0 hz) ?_
  refine jE ?_
  refine jA ?_
  refine jI ?_
  rw [hno0 hz]
  exact ⟨_,_,AV.weak.refl _,AS.le.refl _,rfl,rfl⟩
 ·refine jB (nat0F hz) ?_
  refine jF ?_
  refine awp_skip ?_
  refine hK _ _ ?_;clear hK K
  have hlen:=h0len hz
  refine wK fun K hK=>?_
  refine jA ?_
  refine awp_block ?_
  refine awp_loop (fun E s2=>∃ i : Nat,i≤t.length∧(∀ j,j < i→goodR t j)∧E 4 = .v (.int .i64 i)∧E 3 = .v (.int .i64 (lvs t))∧E 0 = .sl 5 t.length X .any∧s2 = s1)
   (fun E _=>match E 4 with | .v (.int _ i)=>t.length - i.toNat | _=>0) ?_ ?_
  ·exact ⟨0,Nat.zero_le _,fun j h=>absurd h (Nat.not_lt_zero _),by simp only [upd,Nc,↓reduceIte]; rfl,by simp only [upd,Nc,↓reduceIte],by simp only [upd,initE,List.getD_cons_zero,List.getD_cons_succ,Nc,↓reduceIte],rfl⟩
  ·rintro E1 s2 ⟨i,hi,hall,g4,g3,g0,rfl⟩ -
   refine wK fun K2 hK2=>?_
   by_cases hi' : i < t.length
   ·refine jB (Ai @g4 (Ai @g0 (Ai @eye_lt_nat (decide_eq_true hi')))) ?_
    refine jE ?_
    refine awp_skip ?_
    refine hK2 _ _ ?_;clear hK2 K2
    refine wK fun K3 hK3=>?_
    refine awp_block ?_
    have hnoi':=hnoi i hi'
    have hgood : goodR t i↔(nd t i).right∧((nd t i).kind = 0∨((nd t i).kind = 1↔i % 2 = 0))∧((nd t i).kind = 1→namedR t (nd t i).name = ((i / 2 : Nat) : Int))∧∀ u ∈ (nd t i).unm,(undI (i : Int)).1≤u∧u≤(undI (i : Int)).2∧memR t u:=Iff.rfl
    have hat':=hat i hi'
    have hrn':=hrn i
    have hul':=hul i
    have hni:=fun s=>hnc (nd t i).name s
    have hun:=fun s=>refUnder18_calls (Γ:=Γ) (i : Int) s
    generalize (undI (i : Int)).1 = ua at *
    generalize (undI (i : Int)).2 = ub at *
    generalize namedR t (nd t i).name = NI at *
    generalize nd t i = N at *
    obtain ⟨nk,nm,ny,npa,nu⟩:=N
    unfold NodeV.cells at hat' hrn'
    simp only at hni hul' hgood
    unfold intsV at hat' hrn'
    have hge : (0 : Int)≤(i : Int):=by omega
    have hr2 : irem (i : Int) 2 = ((i % 2 : Nat) : Int):=irem_u i 2
    have hq2 : iquo .i64 (i : Int) 2 = ((i / 2 : Nat) : Int):=iquo_nat i (by omega)
    have bb : ((true != true) = false∧(false != false) = false)∧((true != false) = true∧(false != true) = true):=⟨⟨rfl,rfl⟩,rfl,rfl⟩
    have bc : ((true == true) = true∧(false == false) = true)∧((true == false) = false∧(false == true) = false):=⟨⟨rfl,rfl⟩,rfl,rfl⟩
    have hend : goodR t i→∀ (E : Env),E 4 = .v (.int .i64 i)→E 3 = .v (.int .i64 (lvs t))→E 0 = .sl 5 t.length X .any→K3 E s2:=by
     intro hg E f4 f3 f0
     refine hK3 _ _ ?_;clear hK3 K3
     refine jD (Ai @f4 (eye_succM i (by omega))) ?_
     refine ⟨⟨i + 1,by omega,?_,by simp only [upd,Nc,↓reduceIte],by simp only [upd,f3,Nc,↓reduceIte],by simp only [upd,f0,Nc,↓reduceIte],rfl⟩,?_⟩
     ·intro j hj
      by_cases e : j = i
      ·rw [e]; exact hg
      ·exact hall j (by omega)
     ·simp only [g4,upd,↓reduceIte]
      omega
    clear hK3
    refine awp_reg_frz 5 (by decide) ?_
    intro K5 hK5
    simp only [↓DM,pval,DX,Nz,↓DN,Qa,Qb,Qc,Qd,Qe,Qf,Qg,Qh,reduceCtorEq,↓reduceIte,Na,Nb,Nc,Nk,Nf,Ng,Nh,Za,Zb,Zc,TT,g0,g4,eye_lt_nat,hi',hge,hat']
    intro o1 h1
    refine hK5 _ _ o1 _ (by simp only [upd,Nc,↓reduceIte]) h1 ?_
    clear hK5 K5 h1
    refine wK fun K4 hK4=>?_
    have h4 : (NodeV.right ⟨nk,nm,ny,npa,nu⟩∧(nk = 0∨(nk = 1↔i % 2 = 0)))→∀ (E : Env),E 4 = .v (.int .i64 i)→E 3 = .v (.int .i64 (lvs t))→E 0 = .sl 5 t.length X .any→E 5 = .rop [.v (.int .i64 nk),.sl 1 nm.length (nm.map byteV) .any,.v (.int .u64 ny),.sl 1 npa.length (npa.map byteV) .any,.sl 1 nu.length (nu.map intC) .any]→K4 E s2:=by
     clear g4 g3 g0
     rintro ⟨gr,gk⟩ E g4 g3 g0 g5
     refine hK4 _ _ ?_;clear hK4 K4
     refine wK fun K6 hK6=>?_
     have h6 : (nk = 1→NI = ((i / 2 : Nat) : Int))→∀ (E : Env),E 4 = .v (.int .i64 i)→E 3 = .v (.int .i64 (lvs t))→E 0 = .sl 5 t.length X .any→E 5 = .rop [.v (.int .i64 nk),.sl 1 nm.length (nm.map byteV) .any,.v (.int .u64 ny),.sl 1 npa.length (npa.map byteV) .any,.sl 1 nu.length (nu.map intC) .any]→K6 E s2:=by
      clear g4 g3 g0 g5
      intro gn E g4 g3 g0 g5
      refine hK6 _ _ ?_;clear hK6 K6
      refine jS @g4 fun K hK=>?_
      refine acallk (hun _) ?_
      rintro r s3 ⟨rfl,rfl⟩
      refine jR hK ?_;clear hK K
      refine jA ?_
      refine awp_block ?_
      refine awp_loop (fun E s4=>∃ k : Nat,k≤nu.length∧(∀ u ∈ nu.take k,ua≤u∧u≤ub∧memR t u)∧E 8 = .v (.int .i64 k)∧E 6 = .v (.int .i64 ua)∧E 7 = .v (.int .i64 ub)∧E 4 = .v (.int .i64 i)∧E 3 = .v (.int .i64 (lvs t))∧E 0 = .sl 5 t.length X .any∧E 5 = .rop [.v (.int .i64 nk),.sl 1 nm.length (nm.map byteV) .any,.v (.int .u64 ny),.sl 1 npa.length (npa.map byteV) .any,.sl 1 nu.length (nu.map intC) .any]∧s4 = s3)
       (fun E _=>match E 8 with | .v (.int _ i)=>nu.length - i.toNat | _=>0) ?_ ?_
      ·exact ⟨0,Nat.zero_le _,(by intro u hu; simp at hu),by simp only [upd,Nc,↓reduceIte]; rfl,by simp only [upd,Nc,↓reduceIte],by simp only [upd,Nc,↓reduceIte],by simp only [upd,g4,Nc,↓reduceIte],by simp only [upd,g3,Nc,↓reduceIte],by simp only [upd,g0,Nc,↓reduceIte],by simp only [upd,g5,Nc,↓reduceIte],rfl⟩
      ·clear g4 g3 g0 g5
       rintro E2 s4 ⟨k,hk,hku,g8,g6,g7,g4,g3,g0,g5,rfl⟩ -
       refine wK fun K7 hK7=>?_
       by_cases hk' : k < nu.length
       ·refine jB (Ai @g8 (Ai @g5 (Ai @eye_lt_nat (decide_eq_true hk')))) ?_
        refine jE ?_
        refine awp_skip ?_
        refine hK7 _ _ ?_;clear hK7 K7
        refine wK fun K8 hK8=>?_
        refine awp_block ?_
        have hgk : (0 : Int)≤(k : Int):=by omega
        have huat:=eat_int hk'
        have humem : nu[k] ∈ nu:=List.getElem_mem hk'
        have hutk : nu.take (k + 1) = nu.take k ++ [nu[k]]:=List.take_succ_eq_append_getElem hk'
        generalize nu[k] = u at *
        have hend2 : (ua≤u∧u≤ub∧memR t u)→∀ (E : Env),E 8 = .v (.int .i64 k)→E 6 = .v (.int .i64 ua)→E 7 = .v (.int .i64 ub)→E 4 = .v (.int .i64 i)→E 3 = .v (.int .i64 (lvs t))→E 0 = .sl 5 t.length X .any→E 5 = .rop [.v (.int .i64 nk),.sl 1 nm.length (nm.map byteV) .any,.v (.int .u64 ny),.sl 1 npa.length (npa.map byteV) .any,.sl 1 nu.length (nu.map intC) .any]→K8 E s4:=by
         intro hu E f8 f6 f7 f4 f3 f0 f5
         refine hK8 _ _ ?_;clear hK8 K8
         refine jD (Ai @f8 (eye_succM k (by omega))) ?_
         refine ⟨⟨k + 1,by omega,?_,by simp only [upd,Nc,↓reduceIte],by simp only [upd,f6,Nc,↓reduceIte],by simp only [upd,f7,Nc,↓reduceIte],by simp only [upd,f4,Nc,↓reduceIte],by simp only [upd,f3,Nc,↓reduceIte],by simp only [upd,f0,Nc,↓reduceIte],by simp only [upd,f5,Nc,↓reduceIte],rfl⟩,?_⟩
         ·intro v hv
          rw [hutk,List.mem_append,List.mem_singleton] at hv
          rcases hv with hv | rfl
          ·exact hku v hv
          ·exact hu
         ·simp only [g8,upd,↓reduceIte]
          omega
        clear hK8
        refine jB (Ai @g5 (Ai @g8 (Ai @eye_lt_nat (Ai @hk' (Ai @hgk (Ai @huat @intC.eq_1)))))) ?_
        by_cases u1 : u < ua
        ·refine jB (Ai @g6 (decide_eq_true u1)) ?_
         refine jE ?_
         refine jA ?_
         refine jI ?_
         rw [hnoi' (fun q=>by have:=((hgood.1 q).2.2.2 u humem).1; omega)]
         exact ⟨_,_,AV.weak.refl _,AS.le.refl _,rfl,rfl⟩
        ·by_cases u2 : ub < u
         ·refine jB (Ai @g6 (Ai @g7 (Ai (decide_eq_false u1) (decide_eq_true u2)))) ?_
          refine jE ?_
          refine jA ?_
          refine jI ?_
          rw [hnoi' (fun q=>by have:=((hgood.1 q).2.2.2 u humem).2.1; omega)]
          exact ⟨_,_,AV.weak.refl _,AS.le.refl _,rfl,rfl⟩
         ·refine jS (Ai @g6 (Ai @g7 (Ai @g0 (Ai (decide_eq_false u1) (decide_eq_false u2))))) fun K hK=>?_
          refine acallk (hmc _ _) ?_
          rintro r s5 ⟨rfl,rfl⟩
          by_cases u3 : memR t u
          ·rw [decide_eq_true u3]
           refine jR hK ?_;clear hK K
           refine jF ?_
           refine awp_skip ?_
           simp only [blockQ,thenQ,if_true,if_false]
           exact hend2 ⟨by omega,by omega,u3⟩ _ (by simp only [upd,g8,Nc,↓reduceIte]) (by simp only [upd,g6,Nc,↓reduceIte]) (by simp only [upd,g7,Nc,↓reduceIte]) (by simp only [upd,g4,Nc,↓reduceIte]) (by simp only [upd,g3,Nc,↓reduceIte]) (by simp only [upd,g0,Nc,↓reduceIte]) (by simp only [upd,g5,Nc,↓reduceIte])
          ·rw [decide_eq_false u3]
           refine jR hK ?_;clear hK K
           refine jE ?_
           refine jA ?_
           refine jI ?_
           rw [hnoi' (fun q=>u3 ((hgood.1 q).2.2.2 u humem).2.2)]
           exact ⟨_,_,AV.weak.refl _,AS.le.refl _,rfl,rfl⟩
       ·refine jB (Ai @g8 (Ai @g5 (Ai @eye_lt_nat (decide_eq_false hk')))) ?_
        refine jF ?_
        refine awp_exit ?_
        simp only [thenQ,blockQ,if_true,if_false]
        rw [List.take_of_length_le (by omega)] at hku
        exact hend (hgood.2 ⟨gr,gk,gn,hku⟩) _ (by simp only [upd,g4,Nc,↓reduceIte]) (by simp only [upd,g3,Nc,↓reduceIte]) (by simp only [upd,g0,Nc,↓reduceIte])
     clear hK6
     by_cases k1 : nk = 1
     ·refine jS (Ai @g5 (Ai (yesI k1) @g0)) fun K hK=>?_
      refine acallk (hni _) ?_
      rintro r s3 ⟨rfl,rfl⟩
      by_cases hn : NI = ((i / 2 : Nat) : Int)
      ·refine jV (Ai @g4 (Ai @two0 (Ai @hq2 (eqI hn)))) hK ?_;clear hK K
       refine jF ?_
       refine awp_skip ?_
       exact h6 (fun _=>hn) _ (by simp only [upd,g4,Nc,↓reduceIte]) (by simp only [upd,g3,Nc,↓reduceIte]) (by simp only [upd,g0,Nc,↓reduceIte]) (by simp only [upd,g5,Nc,↓reduceIte])
      ·refine jV (Ai @g4 (Ai @two0 (Ai @hq2 (neI hn)))) hK ?_;clear hK K
       refine jE ?_
       refine jA ?_
       refine jI ?_
       rw [hnoi' (fun q=>hn ((hgood.1 q).2.2.1 k1))]
       exact ⟨_,_,AV.weak.refl _,AS.le.refl _,rfl,rfl⟩
     ·refine jB (Ai @g5 (notI k1)) ?_
      refine jF ?_
      refine awp_skip ?_
      exact h6 (fun q=>absurd q k1) _ (by simp only [upd,g4,Nc,↓reduceIte]) (by simp only [upd,g3,Nc,↓reduceIte]) (by simp only [upd,g0,Nc,↓reduceIte]) (by simp only [upd,g5,Nc,↓reduceIte])
    clear hK4
    refine jQ fun K hK=>?_
    refine acallk (hrn' _) ?_
    rintro r s3 ⟨rfl,rfl⟩
    by_cases gr : NodeV.right ⟨nk,nm,ny,npa,nu⟩
    ·rw [decide_eq_true gr]
     by_cases k0 : nk = 0
     ·refine jV (eqI k0) hK ?_;clear hK K
      refine jF ?_
      refine awp_skip ?_
      exact h4 ⟨gr,.inl k0⟩ _ (by simp only [upd,g4,Nc,↓reduceIte]) (by simp only [upd,g3,Nc,↓reduceIte]) (by simp only [upd,g0,Nc,↓reduceIte]) (by simp only [upd,Nc,↓reduceIte])
     ·by_cases k1 : nk = 1
      ·by_cases kp : i % 2 = 0
       ·have t2 : (irem (i : Int) 2 == 0) = true:=by rw [hr2]; exact yesI (by omega)
        simp only [↓DM,pval,DX,Nz,↓DN,Qa,Qb,Qc,Qd,Qe,Qf,Qg,Qh,reduceCtorEq,↓reduceIte,Na,Nb,Nc,Nk,Nf,Ng,Nh,Za,Zb,Zc,TT,neI k0,yesI k1,g4,two0,t2,bb,bc]
        refine hK _ _ ?_;clear hK K
        refine jF ?_
        refine awp_skip ?_
        exact h4 ⟨gr,.inr ⟨fun _=>kp,fun _=>k1⟩⟩ _ (by simp only [upd,g4,Nc,↓reduceIte]) (by simp only [upd,g3,Nc,↓reduceIte]) (by simp only [upd,g0,Nc,↓reduceIte]) (by simp only [upd,Nc,↓reduceIte])
       ·have t2 : (irem (i : Int) 2 == 0) = false:=by rw [hr2]; exact notI (by omega)
        simp only [↓DM,pval,DX,Nz,↓DN,Qa,Qb,Qc,Qd,Qe,Qf,Qg,Qh,reduceCtorEq,↓reduceIte,Na,Nb,Nc,Nk,Nf,Ng,Nh,Za,Zb,Zc,TT,neI k0,yesI k1,g4,two0,t2,bb,bc]
        refine hK _ _ ?_;clear hK K
        refine jE ?_
        refine jA ?_
        refine jI ?_
        rw [hnoi' (fun q=>by rcases (hgood.1 q).2.1 with h | h; exact k0 h; exact kp (h.1 k1))]
        exact ⟨_,_,AV.weak.refl _,AS.le.refl _,rfl,rfl⟩
      ·by_cases kp : i % 2 = 0
       ·have t2 : (irem (i : Int) 2 == 0) = true:=by rw [hr2]; exact yesI (by omega)
        simp only [↓DM,pval,DX,Nz,↓DN,Qa,Qb,Qc,Qd,Qe,Qf,Qg,Qh,reduceCtorEq,↓reduceIte,Na,Nb,Nc,Nk,Nf,Ng,Nh,Za,Zb,Zc,TT,neI k0,notI k1,g4,two0,t2,bb,bc]
        refine hK _ _ ?_;clear hK K
        refine jE ?_
        refine jA ?_
        refine jI ?_
        rw [hnoi' (fun q=>by rcases (hgood.1 q).2.1 with h | h; exact k0 h; exact k1 (h.2 kp))]
        exact ⟨_,_,AV.weak.refl _,AS.le.refl _,rfl,rfl⟩
       ·have t2 : (irem (i : Int) 2 == 0) = false:=by rw [hr2]; exact notI (by omega)
        simp only [↓DM,pval,DX,Nz,↓DN,Qa,Qb,Qc,Qd,Qe,Qf,Qg,Qh,reduceCtorEq,↓reduceIte,Na,Nb,Nc,Nk,Nf,Ng,Nh,Za,Zb,Zc,TT,neI k0,notI k1,g4,two0,t2,bb,bc]
        refine hK _ _ ?_;clear hK K
        refine jF ?_
        refine awp_skip ?_
        exact h4 ⟨gr,.inr ⟨fun h=>absurd h k1,fun h=>absurd h kp⟩⟩ _ (by simp only [upd,g4,Nc,↓reduceIte]) (by simp only [upd,g3,Nc,↓reduceIte]) (by simp only [upd,g0,Nc,↓reduceIte]) (by simp only [upd,Nc,↓reduceIte])
    ·rw [decide_eq_false gr]
     refine jR hK ?_;clear hK K
     refine jE ?_
     refine jA ?_
     refine jI ?_
     rw [hnoi' (fun q=>gr (hgood.1 q).1)]
     exact ⟨_,_,AV.weak.refl _,AS.le.refl _,rfl,rfl⟩
   ·refine jB (Ai @g4 (Ai @g0 (Ai @eye_lt_nat (decide_eq_false hi')))) ?_
    refine jF ?_
    refine awp_exit ?_
    simp only [thenQ,blockQ,if_true]
    refine hK _ _ ?_;clear hK hK2 K2 K
    have hall' : ∀ j,j < t.length→goodR t j:=fun j h=>hall j (by omega)
    have hres:=hfin hz hall'
    by_cases h1 : lvs t = 1
    ·have e1:=yesI (show ((lvs t : Nat) : Int) = 1 by omega)
     rw [e1] at hres
     refine jB (Ai @g3 @e1) ?_
     refine jI ?_
     rw [hres]
     exact ⟨_,_,AV.weak.refl _,AS.le.refl _,rfl,rfl⟩
    ·have e1:=notI (show ¬ ((lvs t : Nat) : Int) = 1 by omega)
     rw [e1,Bool.false_or] at hres
     have e2 : iquo .i64 (lvs t : Int) 2 = ((lvs t / 2 : Nat) : Int):=iquo_nat _ (by omega)
     have e3 : isub .i64 (lvs t : Int) 1 = (((lvs t / 2 + (lvs t - lvs t / 2) : Nat)) : Int) - 1:=by rw [isub_i64 (by omega)]; omega
     have hcm:=fun s=>hcc (lvs t / 2) (lvs t - lvs t / 2) (by omega) s
     generalize (((lvs t / 2 + (lvs t - lvs t / 2) : Nat)) : Int) - 1 = LL at *
     refine jS (Ai @g3 (Ai @e1 (Ai @two0 (Ai @e2 (Ai @e3 @g0))))) fun K hK=>?_
     refine acallk (hcm _) ?_
     rintro r s3 ⟨rfl,rfl⟩
     refine jR hK ?_;clear hK K
     refine jI ?_
     rw [hres]
     exact ⟨_,_,AV.weak.refl _,AS.le.refl _,rfl,rfl⟩
end Go.Proofs.YtfjlmkifiihgkaaGreatDoor
namespace Go.Proofs.YtfjlmkifiihgkaaGreatDoor
open Go Go.AM Go.Proofs
variable {Γ : Nat→List AV}
theorem bytesClone_nil (s : AS) : ACalls Tryz.prog Γ 95 [nilS] s (fun r s'=>r = bytesV [] .any∧s' = s):=by
 refine acalls_body Tryz.func95 rfl Tryz.ntmps95 Tryz.results95 (by simp) ?_
 unfold nilS
 refine jA ?_
 refine wK fun K hK=>?_
 refine jA ?_
 refine jE ?_
 refine jA ?_
 refine jI ?_
 exact ⟨_,_,AV.weak_nil,AS.le.refl _,rfl,rfl⟩
theorem bytesClone_no (l : List UInt8) (s : AS) (hl : l.length≤2 ^ 45) : ACalls Tryz.prog Γ 95 [bytesV l .no] s (fun r s'=>r = bytesV l .any∧s' = s):=by
 refine acalls_body Tryz.func95 rfl Tryz.ntmps95 Tryz.results95 (by simp) ?_
 unfold bytesV
 refine jA ?_
 refine wK fun K hK=>?_
 refine jB @and_false ?_
 refine jF ?_
 refine awp_skip ?_
 refine hK _ _ ?_;clear hK K
 by_cases h0 : l.length = 0
 ·have hl0 : l = []:=List.eq_nil_of_length_eq_zero h0
  subst hl0
  refine jA ?_
  refine jI ?_
  exact ⟨_,s,AV.weak_any,AS.le.refl s,rfl,rfl⟩
 ·refine jS @h0 fun K hK=>?_
  refine ⟨by omega,by omega,fun t ht=>hK _ _ ?_⟩
  clear hK K
  refine jI ?_
  exact ⟨_,s,AV.weak_any,AS.le_gain (AS.le.refl s) ht 0,rfl,rfl⟩
theorem bytesClone_calls (l : List UInt8) (s : AS) (hl : l.length≤2 ^ 45) : ACalls Tryz.prog Γ 95 [bytesV l .any] s (fun r s'=>r = bytesV l .any∧s' = s) :=
 ACalls.any (pre:=[]) (post:=[]) (fun e=>by subst e; exact bytesClone_nil s) (bytesClone_no l s hl)
end Go.Proofs.YtfjlmkifiihgkaaGreatDoor
namespace Go.Proofs.YtfjlmkifiihgkaaGreatDoor
open Go Go.AM Go.Proofs
variable {Γ : Nat→List AV}
theorem leaves20_calls (hG : Γ 3 = dB64.map u8C) (t : List NodeV) (ht : TreeW t) (s : AS) : ACalls Tryz.prog Γ 55 [treeV t] s (fun r s'=>r = .v (.int .i64 (if rightT t then lvs t else 0 : Nat))∧s' = s):=by
 refine acalls_body Tryz.func55 rfl Tryz.ntmps55 Tryz.results55 (by simp) ?_
 have hr:=fun s=>right20_calls (Γ:=Γ) hG t ht s
 have hl:=fun s=>leaves_calls (Γ:=Γ) t ht.1 s
 unfold treeV at *
 generalize rowC NodeV.cells t = X at *
 refine jA ?_
 refine wK fun K hK=>?_
 refine jQ fun K hK=>?_
 refine acallk (hr _) ?_
 rintro r s1 ⟨rfl,rfl⟩
 by_cases h : rightT t
 ·rw [decide_eq_true h]
  refine jR hK ?_;clear hK K
  refine jF ?_
  refine awp_skip ?_
  refine hK _ _ ?_;clear hK K
  refine jK (hl _) ?_;rintro s2 rfl
  refine jI ?_
  rw [if_pos h]
  exact ⟨_,_,AV.weak.refl _,AS.le.refl _,rfl,rfl⟩
 ·rw [decide_eq_false h]
  refine jR hK ?_;clear hK K
  refine jE ?_
  refine jA ?_
  refine jI ?_
  rw [if_neg h]
  exact ⟨_,_,AV.weak.refl _,AS.le.refl _,rfl,rfl⟩
theorem zrow_duo (a b : AV) : zrow 2 [a,b] = [a,b]:=rfl
theorem members20_calls (hG : Γ 3 = dB64.map u8C) (t : List NodeV) (ht : TreeW t) (s : AS) : ACalls Tryz.prog Γ 67 [treeV t] s (fun r s'=>r = listV (membersT t)∧s' = s):=by
 refine acalls_body Tryz.func67 rfl Tryz.ntmps67 Tryz.results67 (by simp) ?_
 have hl:=fun s=>leaves20_calls (Γ:=Γ) hG t ht s
 have hm:=fun i s=>member_calls (Γ:=Γ) t ht.1 i s
 have hat:=fun i (h : i < t.length)=>node_at (t:=t) h
 have hlv:=lvs_le t
 obtain ⟨M,hM⟩ : ∃ M,M = (if rightT t then lvs t else 0):=⟨_,rfl⟩
 have hML : membersT t = memL t M:=by
  rw [hM]; unfold membersT; split
  ·rfl
  ·rfl
 have hMle : M≤32:=by rw [hM]; split <;> omega
 have hMi : ∀ i,i < M→2 * i < t.length∧(nd t (2 * i)).name.length≤16:=by
  intro i hi
  rw [hM] at hi
  split at hi
  ·rename_i hr
   have:=hr.len
   exact ⟨by omega,NodeV.right_name (hr.nd _)⟩
  ·omega
 rw [← hM] at hl
 rw [hML]
 clear hM hML
 unfold treeV at *
 generalize rowC NodeV.cells t = X at *
 refine jA ?_
 refine jA ?_
 refine wK fun K hK=>?_
 refine jK (hl _) ?_;rintro s1 rfl
 refine awp_block ?_
 refine awp_loop (fun E s2=>∃ (i : Nat) (x : AV),i≤M∧E 7 = .v (.int .i64 i)∧E 6 = .v (.int .i64 M)∧E 0 = .sl 5 t.length X .any∧E 3 = x∧RBuf 2 s1 s2 x (memL t i).length (rowC ListedV.cells (memL t i))∧s1.le s2)
  (fun E _=>match E 7 with | .v (.int _ i)=>M - i.toNat | _=>0) ?_ ?_
 ·exact ⟨0,_,Nat.zero_le _,by simp only [upd,Nc,↓reduceIte]; rfl,by simp only [upd,Nc,↓reduceIte],by simp only [upd,initE,List.getD_cons_zero,List.getD_cons_succ,Nc,↓reduceIte],by simp only [upd,Nc,↓reduceIte]; rfl,RBuf.nil _ _ _,AS.le.refl _⟩
 ·rintro E1 s2 ⟨i,x,hi,g7,g6,g0,g3,hx,hle⟩ -
  by_cases hi' : i < M
  ·refine jB (Ai @g7 (Ai @g6 (Ai @eye_lt_nat (decide_eq_true hi')))) ?_
   refine wK fun K2 hK2=>?_
   refine jE ?_
   refine awp_skip ?_
   refine hK2 _ _ ?_;clear hK2 K2
   refine wK fun K3 hK3=>?_
   refine awp_block ?_
   refine jB @g7 ?_
   have hstep : memL t (i + 1) = memL t i ++ if memI t (i : Int) then [⟨(i : Int),(nd t (2 * i)).name⟩] else []:=rfl
   have hll:=memL_len t i
   obtain ⟨h2i,hnl⟩:=hMi i hi'
   have hat':=hat (2 * i) h2i
   generalize nd t (2 * i) = N at *
   obtain ⟨nk,nm,ny,npa,nu⟩:=N
   unfold NodeV.cells at hat'
   simp only at hstep hnl
   have hge : (0 : Int)≤((2 * i : Nat) : Int):=by omega
   have hend : ∀ (E : Env) (s3 : AS) (x3 : AV),E 7 = .v (.int .i64 i)→E 6 = .v (.int .i64 M)→E 0 = .sl 5 t.length X .any→E 3 = x3→RBuf 2 s1 s3 x3 (memL t (i + 1)).length (rowC ListedV.cells (memL t (i + 1)))→s1.le s3→K3 E s3:=by
    intro E s3 x3 f7 f6 f0 f3 fx fle
    refine hK3 _ _ ?_;clear hK3 K3
    refine jD (Ai @f7 (eye_succM i (by omega))) ?_
    refine ⟨⟨i + 1,x3,by omega,by simp only [upd,Nc,↓reduceIte],by simp only [upd,f6,Nc,↓reduceIte],by simp only [upd,f0,Nc,↓reduceIte],by simp only [upd,f3,Nc,↓reduceIte],fx,fle⟩,?_⟩
    simp only [g7,upd,↓reduceIte]
    omega
   clear hK3
   generalize memL t i = L at *
   generalize memL t (i + 1) = L1 at *
   refine jS @g0 fun K hK=>?_
   refine acallk (hm _ _) ?_
   rintro r s3 ⟨rfl,rfl⟩
   by_cases hp : memI t (i : Int)
   ·rw [if_pos hp] at hstep
    rw [decide_eq_true hp]
    refine jR hK ?_;clear hK K
    refine jE ?_
    have hsn : rowC ListedV.cells L1 = rowC ListedV.cells L ++ [.v (.int .i64 (i : Int)),.sl 1 nm.length (nm.map byteV) .any]:=by rw [hstep]; exact row_snoc _ _
    have hln : L1.length = L.length + 1:=by rw [hstep]; simp
    rw [hsn,hln] at hend
    rcases hx with ⟨rfl,hi0,hL0⟩ | ⟨t',e,rfl,ht',ht0⟩
    ·refine wE fun K hK=>?_
     simp only [↓DN,Qa,Qb,Qc,Qd,Qe,Qf,Qg,Qh,reduceCtorEq,↓reduceIte,Na,Nb,Nc,Nk,Nf,Ng,Nh,Za,Zb,Zc,TT,g0,g3,imul2_nat i (by omega),eye_lt_nat,h2i,hge,hat',nilS]
     refine acallk (bytesClone_calls nm _ (by omega)) ?_
     rintro r s4 ⟨rfl,rfl⟩
     simp only [↓DM,pval,DX,Nz,↓DN,Qa,Qb,Qc,Qd,Qe,Qf,Qg,Qh,reduceCtorEq,↓reduceIte,Na,Nb,Nc,Nk,Nf,Ng,Nh,Za,Zb,Zc,TT,zrow_duo]
     intro t' ht'
     rw [hi0,hL0] at hend
     refine hK _ _ ?_
     simp only [blockQ,thenQ,if_true,if_false]
     refine hend _ _ (.sl 2 1 [.v (.int .i64 (i : Int)),.sl 1 nm.length (nm.map byteV) .any] (.own t' 0)) (by simp only [upd,g7,Nc,↓reduceIte]) (by simp only [upd,g6,Nc,↓reduceIte]) (by simp only [upd,g0,Nc,↓reduceIte]) (by simp only [upd,Nc,↓reduceIte]) (.inr ⟨t',0,rfl,by simp [AS.gain],own_none_le hle ht'⟩) (AS.le_gain hle (own_none_le hle ht') 0)
    ·refine jU (Ai @g0 (Ai @g3 (Ai (imul2_nat i (by omega)) (Ai @eye_lt_nat (Ai @h2i (Ai @hge @hat')))))) fun K hK=>?_
     refine acallk (bytesClone_calls nm _ (by omega)) ?_
     rintro r s4 ⟨rfl,rfl⟩
     simp only [↓DM,pval,DX,Nz,↓DN,Qa,Qb,Qc,Qd,Qe,Qf,Qg,Qh,reduceCtorEq,↓reduceIte,Na,Nb,Nc,Nk,Nf,Ng,Nh,Za,Zb,Zc,TT,zrow_duo,ht']
     refine ⟨by omega,by omega,hK _ _ ?_⟩
     simp only [blockQ,thenQ,if_true,if_false]
     refine hend _ _ (.sl 2 (L.length + 1) (rowC ListedV.cells L ++ [.v (.int .i64 (i : Int)),.sl 1 nm.length (nm.map byteV) .any]) (.own t' (e + 1))) (by simp only [upd,g7,Nc,↓reduceIte]) (by simp only [upd,g6,Nc,↓reduceIte]) (by simp only [upd,g0,Nc,↓reduceIte]) (by simp only [upd,Nc,↓reduceIte]) (.inr ⟨t',e + 1,rfl,by simp [AS.gain],ht0⟩) (AS.le_gain hle ht0 (e + 1))
   ·rw [if_neg hp,List.append_nil] at hstep
    rw [decide_eq_false hp]
    refine jR hK ?_;clear hK K
    refine jF ?_
    refine awp_skip ?_
    simp only [blockQ,thenQ,if_true,if_false]
    rw [hstep] at hend
    exact hend _ _ _ (by simp only [upd,g7,Nc,↓reduceIte]) (by simp only [upd,g6,Nc,↓reduceIte]) (by simp only [upd,g0,Nc,↓reduceIte]) (by simp only [upd,g3,Nc,↓reduceIte]) hx hle
  ·refine jB (Ai @g7 (Ai @g6 (Ai @eye_lt_nat (decide_eq_false hi')))) ?_
   refine wK fun K2 hK2=>?_
   refine jF ?_
   refine awp_exit ?_
   simp only [thenQ,blockQ,if_true]
   refine hK _ _ ?_;clear hK hK2 K2 K
   obtain rfl : i = M:=by omega
   have hw:=hx.weak
   refine jB @g3 ?_
   refine jI ?_
   exact ⟨_,_,hw,hle,rfl,rfl⟩
end Go.Proofs.YtfjlmkifiihgkaaGreatDoor
namespace Go.Proofs.YtfjlmkifiihgkaaGreatDoor
open Go Go.AM Go.Proofs
variable {Γ : Nat→List AV}
theorem memR_right {t : List NodeV} (h : rightT t) (i : Int) : memR t i↔memI t i:=memR_iff h.1 i
theorem refMembers_calls (t : List NodeV) (ht : TreeW t) (s : AS) : ACalls Tryz.prog Γ 68 [treeV t] s (fun r s'=>r = listV (membersT t)∧s' = s):=by
 refine acalls_body Tryz.func68 rfl Tryz.ntmps68 Tryz.results68 (by simp) ?_
 have hr:=fun s=>refRight20_calls (Γ:=Γ) t ht s
 have hm:=fun i s=>refMember_calls (Γ:=Γ) t ht.1 i s
 have hat:=fun i (h : i < t.length)=>node_at (t:=t) h
 have hno : ¬ rightT t→membersT t = []:=fun h=>if_neg h
 have hyes : rightT t→membersT t = memL t (lvs t):=fun h=>if_pos h
 obtain ⟨MT,hMT⟩ : ∃ q,q = membersT t:=⟨_,rfl⟩
 rw [← hMT]
 have hlv:=lvs_le t
 unfold treeV at *
 generalize rowC NodeV.cells t = X at *
 refine jA ?_
 refine jA ?_
 refine wK fun K hK=>?_
 refine jQ fun K hK=>?_
 refine acallk (hr _) ?_
 rintro r s1 ⟨rfl,rfl⟩
 by_cases h : rightT t
 ·have hlen:=h.len.1
  have hfit:=h.len.2.le
  have hmr:=memR_right h
  rw [decide_eq_true h]
  obtain ⟨M,hM⟩ : ∃ M,M = lvs t:=⟨_,rfl⟩
  rw [← hM] at hyes hlen hfit hlv
  refine jR hK ?_;clear hK K
  refine jF ?_
  refine awp_skip ?_
  refine hK _ _ ?_;clear hK K
  refine wK fun K hK=>?_
  refine jA ?_
  refine awp_block ?_
  refine awp_loop (fun E s2=>∃ (i : Nat) (x : AV),i≤M∧E 4 = .v (.int .i64 i)∧E 0 = .sl 5 t.length X .any∧E 3 = x∧RBuf 2 s1 s2 x (memL t i).length (rowC ListedV.cells (memL t i))∧s1.le s2)
   (fun E _=>match E 4 with | .v (.int _ i)=>M - i.toNat | _=>0) ?_ ?_
  ·exact ⟨0,_,Nat.zero_le _,by simp only [upd,Nc,↓reduceIte]; rfl,by simp only [upd,initE,List.getD_cons_zero,List.getD_cons_succ,Nc,↓reduceIte],by simp only [upd,Nc,↓reduceIte]; rfl,RBuf.nil _ _ _,AS.le.refl _⟩
  ·rintro E1 s2 ⟨i,x,hi,g4,g0,g3,hx,hle⟩ -
   refine wK fun K2 hK2=>?_
   by_cases hi' : i < M
   ·have h2i : 2 * i < t.length:=by omega
    refine jB (Ai @g4 (Ai @g0 (Ai (imul2_nat i (by omega)) (Ai @eye_lt_nat (decide_eq_true h2i))))) ?_
    refine jE ?_
    refine awp_skip ?_
    refine hK2 _ _ ?_;clear hK2 K2
    refine wK fun K3 hK3=>?_
    refine awp_block ?_
    have hstep : memL t (i + 1) = memL t i ++ if memI t (i : Int) then [⟨(i : Int),(nd t (2 * i)).name⟩] else []:=rfl
    have hll:=memL_len t i
    have hat':=hat (2 * i) h2i
    generalize nd t (2 * i) = N at *
    obtain ⟨nk,nm,ny,npa,nu⟩:=N
    unfold NodeV.cells at hat'
    simp only at hstep
    have hge : (0 : Int)≤((2 * i : Nat) : Int):=by omega
    have hend : ∀ (E : Env) (s3 : AS) (x3 : AV),E 4 = .v (.int .i64 i)→E 0 = .sl 5 t.length X .any→E 3 = x3→RBuf 2 s1 s3 x3 (memL t (i + 1)).length (rowC ListedV.cells (memL t (i + 1)))→s1.le s3→K3 E s3:=by
     intro E s3 x3 f4 f0 f3 fx fle
     refine hK3 _ _ ?_;clear hK3 K3
     refine jD (Ai @f4 (eye_succM i (by omega))) ?_
     refine ⟨⟨i + 1,x3,by omega,by simp only [upd,Nc,↓reduceIte],by simp only [upd,f0,Nc,↓reduceIte],by simp only [upd,f3,Nc,↓reduceIte],fx,fle⟩,?_⟩
     simp only [g4,upd,↓reduceIte]
     omega
    clear hK3
    generalize memL t i = L at *
    generalize memL t (i + 1) = L1 at *
    refine jS (Ai @g0 @g4) fun K hK=>?_
    refine acallk (hm _ _) ?_
    rintro r s3 ⟨rfl,rfl⟩
    by_cases hp : memI t (i : Int)
    ·rw [if_pos hp] at hstep
     rw [decide_eq_true ((hmr _).2 hp)]
     refine jR hK ?_;clear hK K
     refine jE ?_
     have hsn : rowC ListedV.cells L1 = rowC ListedV.cells L ++ [.v (.int .i64 (i : Int)),.sl 1 nm.length (nm.map byteV) .any]:=by rw [hstep]; exact row_snoc _ _
     have hln : L1.length = L.length + 1:=by rw [hstep]; simp
     rw [hsn,hln] at hend
     rcases hx with ⟨rfl,hi0,hL0⟩ | ⟨t',e,rfl,ht',ht0⟩
     ·refine wE fun K hK=>?_
      simp only [↓DN,Qa,Qb,Qc,Qd,Qe,Qf,Qg,Qh,reduceCtorEq,↓reduceIte,Na,Nb,Nc,Nk,Nf,Ng,Nh,Za,Zb,Zc,TT,g0,g3,g4,imul2_nat i (by omega),eye_lt_nat,h2i,hge,hat',nilS,zrow_duo]
      intro t' ht'
      rw [hi0,hL0] at hend
      refine hK _ _ ?_
      simp only [blockQ,thenQ,if_true,if_false]
      refine hend _ _ (.sl 2 1 [.v (.int .i64 (i : Int)),.sl 1 nm.length (nm.map byteV) .any] (.own t' 0)) (by simp only [upd,g4,Nc,↓reduceIte]) (by simp only [upd,g0,Nc,↓reduceIte]) (by simp only [upd,Nc,↓reduceIte]) (.inr ⟨t',0,rfl,by simp [AS.gain],own_none_le hle ht'⟩) (AS.le_gain hle (own_none_le hle ht') 0)
     ·refine jU (Ai @g0 (Ai @g3 (Ai @g4 (Ai (imul2_nat i (by omega)) (Ai @eye_lt_nat (Ai @h2i (Ai @hge (Ai @hat' (Ai @zrow_duo @ht'))))))))) fun K hK=>?_
      refine ⟨by omega,by omega,hK _ _ ?_⟩
      simp only [blockQ,thenQ,if_true,if_false]
      refine hend _ _ (.sl 2 (L.length + 1) (rowC ListedV.cells L ++ [.v (.int .i64 (i : Int)),.sl 1 nm.length (nm.map byteV) .any]) (.own t' (e + 1))) (by simp only [upd,g4,Nc,↓reduceIte]) (by simp only [upd,g0,Nc,↓reduceIte]) (by simp only [upd,Nc,↓reduceIte]) (.inr ⟨t',e + 1,rfl,by simp [AS.gain],ht0⟩) (AS.le_gain hle ht0 (e + 1))
    ·rw [if_neg hp,List.append_nil] at hstep
     rw [decide_eq_false (fun q=>hp ((hmr _).1 q))]
     refine jR hK ?_;clear hK K
     refine jF ?_
     refine awp_skip ?_
     simp only [blockQ,thenQ,if_true,if_false]
     rw [hstep] at hend
     exact hend _ _ _ (by simp only [upd,g4,Nc,↓reduceIte]) (by simp only [upd,g0,Nc,↓reduceIte]) (by simp only [upd,g3,Nc,↓reduceIte]) hx hle
   ·have h2i : ¬ 2 * i < t.length:=by omega
    refine jB (Ai @g4 (Ai @g0 (Ai (imul2_nat i (by omega)) (Ai @eye_lt_nat (decide_eq_false h2i))))) ?_
    refine jF ?_
    refine awp_exit ?_
    simp only [thenQ,blockQ,if_true]
    refine hK _ _ ?_;clear hK hK2 K2 K
    obtain rfl : i = M:=by omega
    have hw:=hx.weak
    refine jB @g3 ?_
    refine jI ?_
    refine ⟨_,_,hw,hle,?_,rfl⟩
    rw [hMT,hyes h]
    rfl
 ·rw [decide_eq_false h]
  refine jR hK ?_;clear hK K
  refine jE ?_
  refine jA ?_
  refine jI ?_
  refine ⟨_,_,AV.weak_nil (sz:=2),AS.le.refl _,?_,rfl⟩
  rw [hMT,hno h]
  rfl
theorem take_eqL {α : Type} {a b : List α} {i : Nat} (ha : i < a.length) (hb : i < b.length) (h : a.take i = b.take i) (he : a[i] = b[i]) : a.take (i + 1) = b.take (i + 1):=by
 rw [List.take_succ_eq_append_getElem ha,List.take_succ_eq_append_getElem hb,h,he]
theorem take_fullL {α : Type} {a b : List α} {i : Nat} (hl : a.length = b.length) (ha : ¬ i < a.length) (h : a.take i = b.take i) : a = b:=by
 rwa [List.take_of_length_le (by omega),List.take_of_length_le (by omega)] at h
theorem alike_calls (a b : List ListedV) (ha : a.length≤2 ^ 61) (s : AS) : ACalls Tryz.prog Γ 66 [listV a,listV b] s (fun r s'=>r = .v (.bool (decide (a = b)))∧s' = s):=by
 refine acalls_body Tryz.func66 rfl Tryz.ntmps66 Tryz.results66 (by simp) ?_
 have hrow1:=fun i (h : i < a.length)=>row_at (c:=ListedV.cells) (k:=2) (fun _=>rfl) h
 have hrow2:=fun i (h : i < b.length)=>row_at (c:=ListedV.cells) (k:=2) (fun _=>rfl) h
 unfold listV
 generalize rowC ListedV.cells a = XA at *
 generalize rowC ListedV.cells b = XB at *
 refine jA ?_
 refine wK fun K hK=>?_
 by_cases hl : a.length = b.length
 ·refine jB (natEq hl) ?_
  refine jF ?_
  refine awp_skip ?_
  refine hK _ _ ?_;clear hK K
  refine wK fun K hK=>?_
  refine jA ?_
  refine awp_block ?_
  refine awp_loop (fun E s2=>∃ i : Nat,i≤a.length∧E 5 = .v (.int .i64 i)∧E 0 = .sl 2 a.length XA .any∧E 1 = .sl 2 b.length XB .any∧a.take i = b.take i∧s2 = s)
   (fun E _=>match E 5 with | .v (.int _ i)=>a.length - i.toNat | _=>0) ?_ ?_
  ·exact ⟨0,Nat.zero_le _,by simp only [upd,Nc,↓reduceIte]; rfl,by simp only [upd,initE,List.getD_cons_zero,List.getD_cons_succ,Nc,↓reduceIte],by simp only [upd,initE,List.getD_cons_zero,List.getD_cons_succ,Nc,↓reduceIte],by simp,rfl⟩
  ·rintro E1 s2 ⟨i,hi,g5,g0,g1,hall,rfl⟩ -
   refine wK fun K2 hK2=>?_
   by_cases hi' : i < a.length
   ·refine jB (Ai @g5 (Ai @g0 (Ai @eye_lt_nat (decide_eq_true hi')))) ?_
    refine jE ?_
    refine awp_skip ?_
    refine hK2 _ _ ?_;clear hK2 K2
    refine wK fun K3 hK3=>?_
    refine awp_block ?_
    have hi2 : i < b.length:=by omega
    have hat1:=hrow1 i hi'
    have hat2:=hrow2 i hi2
    have hge : (0 : Int)≤(i : Int):=by omega
    have hyes : a[i] = b[i]→a.take (i + 1) = b.take (i + 1):=take_eqL hi' hi2 hall
    have hno : a[i]≠b[i]→decide (a = b) = false:=fun h=>decide_eq_false fun q=>h (by subst q; rfl)
    generalize a[i] = y1 at *
    generalize b[i] = y2 at *
    obtain ⟨k1,n1⟩:=y1
    obtain ⟨k2,n2⟩:=y2
    unfold ListedV.cells at hat1 hat2
    simp only at hat1 hat2
    by_cases hk : k1 = k2
    ·by_cases hn : n1 = n2
     ·subst hk hn
      refine awp_drw_seq T.mixed [] (by kernel_rfl) ?_
      intro K hK
      refine jV (Ai @g5 (Ai @g0 (Ai @g1 (Ai @eye_lt_nat (Ai @hi' (Ai @hi2 (Ai @hge (Ai @hat1 (Ai @hat2 (Ai (eqI (show k1 = k1 from rfl)) (listEq (show n1 = n1 from rfl)))))))))))) hK ?_;clear hK K
      refine jF ?_
      refine awp_skip ?_
      simp only [blockQ,thenQ,if_true,if_false]
      refine hK3 _ _ ?_;clear hK3 K3
      refine jD (Ai @g5 (eye_succM i (by omega))) ?_
      refine ⟨⟨i + 1,by omega,by simp only [upd,Nc,↓reduceIte],by simp only [upd,g0,Nc,↓reduceIte],by simp only [upd,g1,Nc,↓reduceIte],hyes rfl,rfl⟩,?_⟩
      simp only [g5,upd,↓reduceIte]
      omega
     ·refine awp_drw_seq T.mixed [] (by kernel_rfl) ?_
      intro K hK
      refine jV (Ai @g5 (Ai @g0 (Ai @g1 (Ai @eye_lt_nat (Ai @hi' (Ai @hi2 (Ai @hge (Ai @hat1 (Ai @hat2 (Ai (eqI hk) (listNe hn))))))))))) hK ?_;clear hK K
      refine jE ?_
      refine jA ?_
      refine jI ?_
      rw [hno (fun q=>hn (by simpa using congrArg ListedV.name q))]
      exact ⟨_,_,AV.weak.refl _,AS.le.refl _,rfl,rfl⟩
    ·refine awp_drw_seq T.mixed [] (by kernel_rfl) ?_
     intro K hK
     refine jV (Ai @g5 (Ai @g0 (Ai @g1 (Ai @eye_lt_nat (Ai @hi' (Ai @hi2 (Ai @hge (Ai @hat1 (Ai @hat2 (neI hk)))))))))) hK ?_;clear hK K
     refine jE ?_
     refine jA ?_
     refine jI ?_
     rw [hno (fun q=>hk (by simpa using congrArg ListedV.leaf q))]
     exact ⟨_,_,AV.weak.refl _,AS.le.refl _,rfl,rfl⟩
   ·refine jB (Ai @g5 (Ai @g0 (Ai @eye_lt_nat (decide_eq_false hi')))) ?_
    refine jF ?_
    refine awp_exit ?_
    simp only [thenQ,blockQ,if_true]
    refine hK _ _ ?_;clear hK hK2 K2 K
    have hab : a = b:=take_fullL hl hi' hall
    refine jA ?_
    refine jI ?_
    rw [decide_eq_true hab]
    exact ⟨_,_,AV.weak.refl _,AS.le.refl _,rfl,rfl⟩
 ·refine jB (natNe hl) ?_
  refine jE ?_
  refine jA ?_
  refine jI ?_
  rw [decide_eq_false (fun q=>hl (by rw [q]))]
  exact ⟨_,_,AV.weak.refl _,AS.le.refl _,rfl,rfl⟩
theorem same20_calls (a b : List NodeV) (ha : TreeW a) (s : AS) : ACalls Tryz.prog Γ 13 [treeV a,treeV b] s (fun r s'=>r = .v (.bool (decide (a = b)))∧s' = s):=by
 refine acalls_body Tryz.func13 rfl Tryz.ntmps13 Tryz.results13 (by simp) ?_
 have hrow1:=fun i (h : i < a.length)=>row_at (c:=NodeV.cells) (k:=5) (fun _=>rfl) h
 have hrow2:=fun i (h : i < b.length)=>row_at (c:=NodeV.cells) (k:=5) (fun _=>rfl) h
 have hal:=ha.1
 unfold treeV
 generalize rowC NodeV.cells a = XA at *
 generalize rowC NodeV.cells b = XB at *
 refine jA ?_
 refine wK fun K hK=>?_
 by_cases hl : a.length = b.length
 ·refine jB (natEq hl) ?_
  refine jF ?_
  refine awp_skip ?_
  refine hK _ _ ?_;clear hK K
  refine wK fun K hK=>?_
  refine jA ?_
  refine awp_block ?_
  refine awp_loop (fun E s2=>∃ i : Nat,i≤a.length∧E 5 = .v (.int .i64 i)∧E 0 = .sl 5 a.length XA .any∧E 1 = .sl 5 b.length XB .any∧a.take i = b.take i∧s2 = s)
   (fun E _=>match E 5 with | .v (.int _ i)=>a.length - i.toNat | _=>0) ?_ ?_
  ·exact ⟨0,Nat.zero_le _,by simp only [upd,Nc,↓reduceIte]; rfl,by simp only [upd,initE,List.getD_cons_zero,List.getD_cons_succ,Nc,↓reduceIte],by simp only [upd,initE,List.getD_cons_zero,List.getD_cons_succ,Nc,↓reduceIte],by simp,rfl⟩
  ·rintro E1 s2 ⟨i,hi,g5,g0,g1,hall,rfl⟩ -
   refine wK fun K2 hK2=>?_
   by_cases hi' : i < a.length
   ·refine jB (Ai @g5 (Ai @g0 (Ai @eye_lt_nat (decide_eq_true hi')))) ?_
    refine jE ?_
    refine awp_skip ?_
    refine hK2 _ _ ?_;clear hK2 K2
    refine wK fun K3 hK3=>?_
    refine awp_block ?_
    have hi2 : i < b.length:=by omega
    have hat1:=hrow1 i hi'
    have hat2:=hrow2 i hi2
    have hge : (0 : Int)≤(i : Int):=by omega
    have hyes : a[i] = b[i]→a.take (i + 1) = b.take (i + 1):=take_eqL hi' hi2 hall
    have hno : a[i]≠b[i]→decide (a = b) = false:=fun h=>decide_eq_false fun q=>h (by subst q; rfl)
    have hsm:=fun s=>refSame19_calls (Γ:=Γ) a[i] b[i] (ha.2 _ (List.getElem_mem hi')).1 s
    generalize a[i] = y1 at *
    generalize b[i] = y2 at *
    obtain ⟨P,hP⟩ : ∃ P,P = decide (y1 = y2):=⟨_,rfl⟩
    rw [← hP] at hsm
    obtain ⟨nk,nm,ny,npa,nu⟩:=y1
    obtain ⟨mk,mm,my,mpa,mu⟩:=y2
    unfold NodeV.cells at hat1 hat2 hsm
    simp only at hat1 hat2 hsm
    unfold intsV at hat1 hat2 hsm
    refine awp_drw_seq T.mixed [8] (by kernel_rfl) ?_
    intro K hK
    simp only [↓DM,pval,DX,Nz,↓DN,Qa,Qb,Qc,Qd,Qe,Qf,Qg,Qh,reduceCtorEq,↓reduceIte,Na,Nb,Nc,Nk,Nf,Ng,Nh,Za,Zb,Zc,TT,g5,g0,g1,eye_lt_nat,hi',hi2,hge,hat1,hat2]
    refine acallk (hsm _) ?_
    rintro r s3 ⟨rfl,rfl⟩
    cases P with
    | true =>
     refine jR hK ?_;clear hK K
     refine jF ?_
     refine awp_skip ?_
     simp only [blockQ,thenQ,if_true,if_false]
     refine hK3 _ _ ?_;clear hK3 K3
     refine jD (Ai @g5 (eye_succM i (by omega))) ?_
     refine ⟨⟨i + 1,by omega,by simp only [upd,Nc,↓reduceIte],by simp only [upd,g0,Nc,↓reduceIte],by simp only [upd,g1,Nc,↓reduceIte],hyes (of_decide_eq_true hP.symm),rfl⟩,?_⟩
     simp only [g5,upd,↓reduceIte]
     omega
    | false =>
     refine jR hK ?_;clear hK K
     refine jE ?_
     refine jA ?_
     refine jI ?_
     rw [hno (of_decide_eq_false hP.symm)]
     exact ⟨_,_,AV.weak.refl _,AS.le.refl _,rfl,rfl⟩
   ·refine jB (Ai @g5 (Ai @g0 (Ai @eye_lt_nat (decide_eq_false hi')))) ?_
    refine jF ?_
    refine awp_exit ?_
    simp only [thenQ,blockQ,if_true]
    refine hK _ _ ?_;clear hK hK2 K2 K
    have hab : a = b:=take_fullL hl hi' hall
    refine jA ?_
    refine jI ?_
    rw [decide_eq_true hab]
    exact ⟨_,_,AV.weak.refl _,AS.le.refl _,rfl,rfl⟩
 ·refine jB (natNe hl) ?_
  refine jE ?_
  refine jA ?_
  refine jI ?_
  rw [decide_eq_false (fun q=>hl (by rw [q]))]
  exact ⟨_,_,AV.weak.refl _,AS.le.refl _,rfl,rfl⟩
end Go.Proofs.YtfjlmkifiihgkaaGreatDoor
