/- Contracts of the program's functions, each walked once; the conditions stand in each theorem. -/
import Derived.Test.YtfjlmkifiihgkaaGreatDoorAMp6
import Derived.Test.YtfjlmkifiihgkaaGreatDoorW1
import Derived.Test.YtfjlmkifiihgkaaGreatDoorW4
import Derived.Test.YtfjlmkifiihgkaaGreatDoorAMp7
import Derived.Shelf.Spec.SlicesInsertGrow
import Derived.Shelf.Slices.SearchI
import Derived.Shelf.Slices.Empties
import Derived.Test.YtfjlmkifiihgkaaGreatDoorAMp5
set_option linter.unusedSimpArgs false
set_option linter.unusedVariables false
open Nat renaming reduceLT → Na, reduceLeDiff → Nb, reduceEqDiff → Nc, reduceAdd → Nk, reduceMul → Nf, reducePow → Ng, reduceSub → Nh, reduceBEq → Nz
open Int renaming reduceLT → Za, reduceLE → Zb, reduceToNat → Zc
open And renaming intro → Ai
open Go.AM renaming ashift → Qa, aconv → Qb, aindexAddr → Qc, aindex → Qd, aslice → Qe, abuiltin → Qf, awp_reg_seq → wS, awp_reg_end → wE, awp_seq_k → wK, awp_cond_k → wC
open Go.AM.AV renaming cells → Qg, one → Qh
set_option maxRecDepth 100000
set_option maxHeartbeats 8000000
set_option autoImplicit false
namespace Go.Proofs.YtfjlmkifiihgkaaGreatDoor
open Go Go.AM Go.Proofs
variable {Γ : Nat→List AV}
theorem named20_calls (t : List NodeV) (ht : t.length≤2 ^ 61) (name : List UInt8) (a : Nat) (ha : a≤2 ^ 60) (s : AS) : ACalls Tryz.prog Γ 85 [treeV t,bytesV name .any,.v (.int .i64 a)] s (fun r s'=>r = .v (.int .i64 (namedI t name a))∧s' = s):=by
 refine acalls_body Tryz.func85 rfl Tryz.ntmps85 Tryz.results85 (by simp) ?_
 have hm:=fun i s=>member_calls (Γ:=Γ) t ht i s
 have hat:=fun i (h : i < t.length)=>node_at (t:=t) h
 obtain ⟨Q,hQ⟩ : ∃ Q : Nat→Bool,Q = fun (j : Nat)=>decide (memI t (j : Int)∧(nd t (2 * j)).name = name):=⟨_,rfl⟩
 have hres : namedI t name a = firstN Q (hlf t - a) a:=by rw [hQ]; rfl
 unfold treeV at hm ⊢
 generalize rowC NodeV.cells t = X at *
 refine jA ?_
 refine wK fun K hK=>?_
 refine jA ?_
 refine awp_block ?_
 refine awp_loop (fun E s2=>∃ i : Nat,i≤2 ^ 61∧a≤i∧firstN Q (hlf t - i) i = firstN Q (hlf t - a) a∧E 7 = .v (.int .i64 i)∧E 0 = .sl 5 t.length X .any∧E 1 = .sl 1 name.length (name.map byteV) .any∧s2 = s)
  (fun E _=>match E 7 with | .v (.int _ i)=>hlf t - i.toNat | _=>0) ?_ ?_
 ·exact ⟨a,by omega,Nat.le_refl _,rfl,by simp only [upd,Nc,↓reduceIte],by simp only [upd,initE,List.getD_cons_zero,List.getD_cons_succ,Nc,↓reduceIte],by simp only [upd,initE,List.getD_cons_zero,List.getD_cons_succ,Nc,↓reduceIte],rfl⟩
 ·rintro E1 s2 ⟨i,hi,hai,hf,g7,g0,g1,rfl⟩ -
  refine wK fun K2 hK2=>?_
  by_cases hi' : i < hlf t
  ·have hi2 : 2 * i < t.length:=hlf_lt.1 hi'
   refine jB (Ai @g7 (Ai @g0 (Ai (imul2_nat i (by omega)) (Ai @eye_lt_nat (decide_eq_true hi2))))) ?_
   refine jE ?_
   refine awp_skip ?_
   refine hK2 _ _ ?_;clear hK2 K2
   refine wK fun K3 hK3=>?_
   refine awp_block ?_
   obtain ⟨k,hk⟩ : ∃ k,hlf t - i = k + 1:=⟨hlf t - i - 1,by omega⟩
   have hk' : hlf t - (i + 1) = k:=by omega
   rw [hk] at hf
   have hQi : Q i = decide (memI t i∧(nd t (2 * i)).name = name):=by rw [hQ]
   have hend : ∀ (E : Env),Q i = false→E 7 = .v (.int .i64 i)→E 0 = .sl 5 t.length X .any→E 1 = .sl 1 name.length (name.map byteV) .any→K3 E s2:=by
    intro E hq f7 f0 f1
    refine hK3 _ _ ?_;clear hK3 K3
    refine jD (Ai @f7 (eye_succM i (by omega))) ?_
    refine ⟨⟨i + 1,by omega,by omega,by rw [hk',← hf,firstN_step hq],by simp only [upd,Nc,↓reduceIte],by simp only [upd,f0,Nc,↓reduceIte],by simp only [upd,f1,Nc,↓reduceIte],rfl⟩,?_⟩
    simp only [g7,upd,↓reduceIte]
    omega
   clear hK3
   have hat':=hat (2 * i) hi2
   generalize nd t (2 * i) = N at *
   obtain ⟨nk,nm,ny,npa,nu⟩:=N
   unfold NodeV.cells at hat'
   simp only at hQi
   have hge : (0 : Int)≤((2 * i : Nat) : Int):=by omega
   refine jS (Ai @g0 @g7) fun K hK=>?_
   refine acallk (hm _ _) ?_
   rintro r s3 ⟨rfl,rfl⟩
   by_cases hp : memI t (i : Int)
   ·rw [decide_eq_true hp]
    simp only [↓DM,pval,DX,Nz,↓DN,Qa,Qb,Qc,Qd,Qe,Qf,Qg,Qh,reduceCtorEq,↓reduceIte,Na,Nb,Nc,Nk,Nf,Ng,Nh,Za,Zb,Zc,TT,g0,g7,g1,imul2_nat i (by omega),eye_lt_nat,hi2,hge,hat']
    refine acallk (bytesEqual_calls nm name _) ?_
    rintro r s4 ⟨rfl,rfl⟩
    by_cases hn : nm = name
    ·rw [decide_eq_true hn]
     rw [decide_eq_true ⟨hp,hn⟩] at hQi
     refine jR hK ?_;clear hK K
     refine jE ?_
     refine jB @g7 ?_
     refine jI ?_
     rw [hres,← hf,firstN_here hQi]
     exact ⟨_,_,AV.weak.refl _,AS.le.refl _,rfl,rfl⟩
    ·rw [decide_eq_false hn]
     rw [decide_eq_false (fun q=>hn q.2)] at hQi
     refine jR hK ?_;clear hK K
     refine jF ?_
     refine awp_skip ?_
     exact hend _ hQi (by simp only [upd,g7,Nc,↓reduceIte]) (by simp only [upd,g0,Nc,↓reduceIte]) (by simp only [upd,g1,Nc,↓reduceIte])
   ·rw [decide_eq_false hp]
    rw [decide_eq_false (fun q=>hp q.1)] at hQi
    refine jR hK ?_;clear hK K
    refine jF ?_
    refine awp_skip ?_
    exact hend _ hQi (by simp only [upd,g7,Nc,↓reduceIte]) (by simp only [upd,g0,Nc,↓reduceIte]) (by simp only [upd,g1,Nc,↓reduceIte])
  ·have hi2 : ¬ 2 * i < t.length:=fun h=>hi' (hlf_lt.2 h)
   refine jB (Ai @g7 (Ai @g0 (Ai (imul2_nat i (by omega)) (Ai @eye_lt_nat (decide_eq_false hi2))))) ?_
   refine jF ?_
   refine awp_exit ?_
   simp only [thenQ,blockQ,if_true]
   refine hK _ _ ?_;clear hK hK2 K2 K
   rw [show hlf t - i = 0 by omega] at hf
   refine jA ?_
   refine jI ?_
   rw [hres,← hf]
   exact ⟨_,_,AV.weak.refl _,AS.le.refl _,rfl,rfl⟩
theorem indexFunc_calls (l : List Int) (hl : l.length≤2 ^ 61) (k : FuncId) (hk : callable Tryz.prog k = true) (caps : List AV) (P : Int→Bool)
  (hP : ∀ x ∈ l,∀ s,ACalls Tryz.prog Γ k (.v (.int .i64 x) :: caps) s (fun r s'=>r = .v (.bool (P x))∧s' = s)) (s : AS) :
  ACalls Tryz.prog Γ 219 [intsV l .any,.clo k caps] s (fun r s'=>r = .v (.int .i64 (firstN (fun i=>P (l.getD i 0)) l.length 0))∧s' = s):=by
 refine acalls_body Tryz.func219 rfl Tryz.ntmps219 Tryz.results219 (by simp) ?_
 obtain ⟨Q,hQ⟩ : ∃ Q : Nat→Bool,Q = fun i=>P (l.getD i 0):=⟨_,rfl⟩
 rw [← hQ]
 unfold intsV
 refine jA ?_
 refine wK fun K hK=>?_
 refine jA ?_
 refine awp_block ?_
 refine awp_loop (fun E s2=>∃ i : Nat,i≤l.length∧firstN Q (l.length - i) i = firstN Q l.length 0∧E 8 = .v (.int .i64 i)∧E 7 = .v (.int .i64 l.length)∧E 0 = .sl 1 l.length (l.map intC) .any∧E 1 = .clo k caps∧s2 = s)
  (fun E _=>match E 8 with | .v (.int _ i)=>l.length - i.toNat | _=>0) ?_ ?_
 ·exact ⟨0,Nat.zero_le _,rfl,by simp only [upd,Nc,↓reduceIte]; rfl,by simp only [upd,Nc,↓reduceIte],by simp only [upd,initE,List.getD_cons_zero,List.getD_cons_succ,Nc,↓reduceIte],by simp only [upd,initE,List.getD_cons_zero,List.getD_cons_succ,Nc,↓reduceIte],rfl⟩
 ·rintro E1 s2 ⟨i,hi,hf,g8,g7,g0,g1,rfl⟩ -
  by_cases hi' : i < l.length
  ·refine jB (Ai @g8 (Ai @g7 (Ai @eye_lt_nat (decide_eq_true hi')))) ?_
   refine wK fun K2 hK2=>?_
   refine jE ?_
   refine awp_skip ?_
   refine hK2 _ _ ?_;clear hK2 K2
   refine wK fun K3 hK3=>?_
   refine awp_block ?_
   have hQi : Q i = P l[i]:=by rw [hQ]; simp [List.getD,hi']
   have hc:=hP l[i] (List.getElem_mem hi') s2
   rw [← hQi] at hc
   obtain ⟨k',hk1⟩ : ∃ k',l.length - i = k' + 1:=⟨l.length - i - 1,by omega⟩
   have hk2 : l.length - (i + 1) = k':=by omega
   rw [hk1] at hf
   have hat:=eat_int hi'
   have hge : (0 : Int)≤(i : Int):=by omega
   refine jB @g8 ?_
   refine jS (Ai @g1 (Ai @g0 (Ai @eye_lt_nat (Ai @hi' (Ai @hge @hat))))) fun K hK=>?_
   refine ⟨hk,?_⟩
   refine acallk hc ?_
   rintro r s3 ⟨rfl,rfl⟩
   cases hq : Q i with
   | true =>
    refine jR hK ?_;clear hK K
    refine jE ?_
    refine jA ?_
    refine jI ?_
    rw [← hf,firstN_here hq]
    exact ⟨_,_,AV.weak.refl _,AS.le.refl _,rfl,rfl⟩
   | false =>
    refine jR hK ?_;clear hK K
    refine jF ?_
    refine awp_skip ?_
    simp only [blockQ,thenQ,if_true,if_false]
    refine hK3 _ _ ?_;clear hK3 K3
    refine jD (Ai @g8 (eye_succM i (by omega))) ?_
    refine ⟨⟨i + 1,by omega,by rw [hk2,← hf,firstN_step hq],by simp only [upd,Nc,↓reduceIte],by simp only [upd,g7,Nc,↓reduceIte],by simp only [upd,g0,Nc,↓reduceIte],by simp only [upd,g1,Nc,↓reduceIte],rfl⟩,?_⟩
    simp only [g8,upd,↓reduceIte]
    omega
  ·refine jB (Ai @g8 (Ai @g7 (Ai @eye_lt_nat (decide_eq_false hi')))) ?_
   refine wK fun K2 hK2=>?_
   refine jF ?_
   refine awp_exit ?_
   simp only [thenQ,blockQ,if_true]
   refine hK _ _ ?_;clear hK hK2 K2 K
   rw [show l.length - i = 0 by omega] at hf
   refine jA ?_
   refine jI ?_
   rw [← hf]
   exact ⟨_,_,AV.weak.refl _,AS.le.refl _,rfl,rfl⟩
theorem containsFunc_calls (l : List Int) (hl : l.length≤2 ^ 61) (k : FuncId) (hk : callable Tryz.prog k = true) (caps : List AV) (P : Int→Bool)
  (hP : ∀ x ∈ l,∀ s,ACalls Tryz.prog Γ k (.v (.int .i64 x) :: caps) s (fun r s'=>r = .v (.bool (P x))∧s' = s)) (s : AS) :
  ACalls Tryz.prog Γ 155 [intsV l .any,.clo k caps] s (fun r s'=>r = .v (.bool (l.any P))∧s' = s):=by
 refine acalls_body Tryz.func155 rfl Tryz.ntmps155 Tryz.results155 (by simp) ?_
 have hc:=fun s=>indexFunc_calls (Γ:=Γ) l hl k hk caps P hP s
 have ha:=firstN_any P l
 generalize firstN (fun i=>P (l.getD i 0)) l.length 0 = n at *
 refine jA ?_
 refine jK (hc _) ?_;rintro s1 rfl
 refine jI ?_
 rw [← ha]
 exact ⟨_,_,AV.weak.refl _,AS.le.refl _,rfl,rfl⟩
theorem foreign_clo : callable Tryz.prog 154 = true:=by kernel_rfl
def foreignB (t : List NodeV) (a b : Int) (u : Int) : Bool:=decide (u < a) || (decide (b < u) || !decide (memI t u))
theorem foreign_calls (t : List NodeV) (ht : t.length≤2 ^ 61) (a b u : Int) (s : AS) : ACalls Tryz.prog Γ 154 [.v (.int .i64 u),.rop [.v (.int .i64 a)],.rop [.v (.int .i64 b)],.rop [treeV t]] s (fun r s'=>r = .v (.bool (foreignB t a b u))∧s' = s):=by
 refine acalls_body Tryz.func154 rfl Tryz.ntmps154 Tryz.results154 (by simp) ?_
 have hm:=fun i s=>member_calls (Γ:=Γ) t ht i s
 unfold treeV at hm ⊢
 generalize rowC NodeV.cells t = X at *
 unfold foreignB
 refine jA ?_
 by_cases h1 : u < a
 ·have hr : (decide (u < a) || (decide (b < u) || !decide (memI t u))) = true:=by rw [decide_eq_true h1]; rfl
  refine jB (decide_eq_true h1) ?_
  refine jI ?_
  rw [hr]
  exact ⟨_,_,AV.weak.refl _,AS.le.refl _,rfl,rfl⟩
 ·by_cases h2 : b < u
  ·have hr : (decide (u < a) || (decide (b < u) || !decide (memI t u))) = true:=by rw [decide_eq_true h2,decide_eq_false h1]; rfl
   refine jB (Ai (decide_eq_false h1) (decide_eq_true h2)) ?_
   refine jI ?_
   rw [hr]
   exact ⟨_,_,AV.weak.refl _,AS.le.refl _,rfl,rfl⟩
  ·have hr : (decide (u < a) || (decide (b < u) || !decide (memI t u))) = !decide (memI t u):=by rw [decide_eq_false h2,decide_eq_false h1]; rfl
   refine jS (Ai (decide_eq_false h1) (decide_eq_false h2)) fun K hK=>?_
   refine acallk (hm _ _) ?_
   rintro r s1 ⟨rfl,rfl⟩
   refine jR hK ?_;clear hK K
   refine jI ?_
   rw [hr]
   exact ⟨_,_,AV.weak.refl _,AS.le.refl _,rfl,rfl⟩
theorem fits20_calls (hG : Γ 3 = dB64.map u8C) (t : List NodeV) (ht : TreeW t) (i : Nat) (hi : i < t.length) (s : AS) : ACalls Tryz.prog Γ 83 [treeV t,.v (.int .i64 i)] s (fun r s'=>r = .v (.bool (decide (fitsT t i)))∧s' = s):=by
 refine acalls_body Tryz.func83 rfl Tryz.ntmps83 Tryz.results83 (by simp) ?_
 have hun:=fun s=>under18_calls (Γ:=Γ) hG (i : Int) s
 obtain ⟨a,ha⟩ : ∃ a,a = (undI (i : Int)).1:=⟨_,rfl⟩
 obtain ⟨b,hb⟩ : ∃ b,b = (undI (i : Int)).2:=⟨_,rfl⟩
 rw [← ha,← hb] at hun
 have hfo:=fun u s=>foreign_calls (Γ:=Γ) t ht.1 a b u s
 have hat:=node_at hi
 have hN:=ht.nd i
 have hfit : fitsT t i↔(nd t i).right∧((nd t i).kind = 0∨((nd t i).kind = 1↔i % 2 = 0))∧((nd t i).unm.any (foreignB t a b)) = false:=by
  unfold fitsT
  rw [← ha,← hb]
  simp only [List.any_eq_false,foreignB,Bool.or_eq_true,decide_eq_true_eq,Bool.not_eq_true',decide_eq_false_iff_not,not_or,Int.not_lt,Decidable.not_not]
 have hnr:=fun s=>nodeRight_calls (Γ:=Γ) (nd t i) hN.1 s
 have hcf:=fun s=>containsFunc_calls (Γ:=Γ) (nd t i).unm hN.1 _ foreign_clo [.rop [.v (.int .i64 a)],.rop [.v (.int .i64 b)],.rop [treeV t]] (foreignB t a b) (fun x _ s=>hfo x s) s
 have hRES : decide (fitsT t i) = (decide (nd t i).right && (((nd t i).kind == 0 || (((nd t i).kind == 1) == (i % 2 == 0))) && !((nd t i).unm.any (foreignB t a b)))):=by
  rw [Bool.eq_iff_iff,decide_eq_true_iff,hfit]
  simp only [Bool.and_eq_true,decide_eq_true_eq,Bool.or_eq_true,beq_iff_eq,Bool.not_eq_true',Bool.beq_eq_decide_eq]
  constructor
  ·rintro ⟨x,y,z⟩
   exact ⟨x,y.imp id (fun q=>by rw [Bool.eq_iff_iff,decide_eq_true_iff,decide_eq_true_iff]; exact q),z⟩
  ·rintro ⟨x,y,z⟩
   exact ⟨x,y.imp id (fun q=>by rw [Bool.eq_iff_iff,decide_eq_true_iff,decide_eq_true_iff] at q; exact q),z⟩
 clear hfit
 generalize List.any (nd t i).unm (foreignB t a b) = F at *
 unfold treeV at hcf ⊢
 generalize rowC NodeV.cells t = X at *
 clear hfo
 generalize decide (fitsT t i) = RES at *
 generalize decide (nd t i).right = RT at *
 generalize nd t i = N at *
 obtain ⟨nk,nm,ny,npa,nu⟩:=N
 unfold NodeV.cells at hat hnr
 simp only at hRES hcf
 unfold intsV at hcf hat hnr
 have hge : (0 : Int)≤(i : Int):=by omega
 have hi' : i < t.length:=hi
 refine awp_reg_frz 2 (by decide) ?_
 intro K hK
 simp only [↓DM,pval,DX,Nz,↓DN,Qa,Qb,Qc,Qd,Qe,Qf,Qg,Qh,reduceCtorEq,↓reduceIte,Na,Nb,Nc,Nk,Nf,Ng,Nh,Za,Zb,Zc,TT]
 intro o1 h1
 refine hK _ _ o1 _ (by simp only [upd,Nc,↓reduceIte]) h1 ?_
 clear hK K h1
 refine awp_reg_frz 5 (by decide) ?_
 intro K hK
 simp only [↓DM,pval,DX,Nz,↓DN,Qa,Qb,Qc,Qd,Qe,Qf,Qg,Qh,reduceCtorEq,↓reduceIte,Na,Nb,Nc,Nk,Nf,Ng,Nh,Za,Zb,Zc,TT,eye_lt_nat,hi',hge,hat]
 intro o1 h1
 refine hK _ _ o1 _ (by simp only [upd,Nc,↓reduceIte]) h1 ?_
 clear hK K h1
 refine awp_reg_frz2 6 7 (by decide) (by decide) (by decide) ?_
 intro K hK
 simp only [↓DM,pval,DX,Nz,↓DN,Qa,Qb,Qc,Qd,Qe,Qf,Qg,Qh,reduceCtorEq,↓reduceIte,Na,Nb,Nc,Nk,Nf,Ng,Nh,Za,Zb,Zc,TT]
 refine acallk (hun _) ?_
 rintro r s1 ⟨rfl,rfl⟩
 simp only [↓DM,pval,DX,Nz,↓DN,Qa,Qb,Qc,Qd,Qe,Qf,Qg,Qh,reduceCtorEq,↓reduceIte,Na,Nb,Nc,Nk,Nf,Ng,Nh,Za,Zb,Zc,TT]
 intro o1 ho1 o2 ho2
 have hne : o1≠o2:=by rintro rfl; simp at ho2
 have hne2:=hne.symm
 simp only [hne,hne2,if_true,if_false,↓reduceIte,List.set_cons_zero,List.set_cons_succ,List.length_cons,List.length_nil,Nat.reduceAdd,Nat.le_refl,true_and]
 rw [set_four hne]
 refine hK _ _ o1 o2 _ _ (by simp only [upd,Nc,↓reduceIte]) (by simp only [upd,Nc,↓reduceIte]) ho1 (by rw [AS.set_objs_ne _ hne2]; simpa [hne2] using ho2) ?_
 clear hK K ho1 ho2 hne hne2
 refine jA ?_
 have hr2 : irem (i : Int) 2 = ((i % 2 : Nat) : Int):=irem_u i 2
 have bb : ((true == true) = true∧(false == false) = true)∧((true == false) = false∧(false == true) = false):=⟨⟨rfl,rfl⟩,rfl,rfl⟩
 cases RT with
 | false =>
  refine jK (hnr _) ?_;rintro s2 rfl
  refine jI ?_
  rw [hRES]
  exact ⟨_,_,AV.weak.refl _,AS.le.refl _,rfl,rfl⟩
 | true =>
  by_cases k0 : nk = 0
  ·have t0:=yesI k0
   refine jQ fun K hK=>?_
   refine acallk (hnr _) ?_
   rintro r s2 ⟨rfl,rfl⟩
   simp only [↓DM,pval,DX,Nz,↓DN,Qa,Qb,Qc,Qd,Qe,Qf,Qg,Qh,reduceCtorEq,↓reduceIte,Na,Nb,Nc,Nk,Nf,Ng,Nh,Za,Zb,Zc,TT,t0]
   refine acallk (hcf _) ?_
   rintro r s3 ⟨rfl,rfl⟩
   refine jR hK ?_;clear hK K
   refine jI ?_
   have hX0 : (true && ((nk == 0 || ((nk == 1) == (i % 2 == 0))) && !F)) = !F:=by rw [t0]; cases F <;> rfl
   rw [hRES,hX0]
   exact ⟨_,_,AV.weak.refl _,AS.le.refl _,rfl,rfl⟩
  ·have t0:=notI k0
   by_cases k1 : nk = 1
   ·have t1:=yesI k1
    by_cases kp : i % 2 = 0
    ·have t2 : (irem (i : Int) 2 == 0) = true:=by rw [hr2]; exact yesI (by omega)
     have t3 : (i % 2 == 0) = true:=by simpa using kp
     have hX0 : (true && ((nk == 0 || ((nk == 1) == (i % 2 == 0))) && !F)) = !F:=by rw [t0,t1,t3]; cases F <;> rfl
     refine jQ fun K hK=>?_
     refine acallk (hnr _) ?_
     rintro r s2 ⟨rfl,rfl⟩
     simp only [↓DM,pval,DX,Nz,↓DN,Qa,Qb,Qc,Qd,Qe,Qf,Qg,Qh,reduceCtorEq,↓reduceIte,Na,Nb,Nc,Nk,Nf,Ng,Nh,Za,Zb,Zc,TT,t0,t1,two0,t2,bb]
     refine acallk (hcf _) ?_
     rintro r s3 ⟨rfl,rfl⟩
     refine jR hK ?_;clear hK K
     refine jI ?_
     rw [hRES,hX0]
     exact ⟨_,_,AV.weak.refl _,AS.le.refl _,rfl,rfl⟩
    ·have t2 : (irem (i : Int) 2 == 0) = false:=by rw [hr2]; exact notI (by omega)
     have t3 : (i % 2 == 0) = false:=by simpa using kp
     have hX0 : (true && ((nk == 0 || ((nk == 1) == (i % 2 == 0))) && !F)) = false:=by rw [t0,t1,t3]; cases F <;> rfl
     refine jQ fun K hK=>?_
     refine acallk (hnr _) ?_
     rintro r s2 ⟨rfl,rfl⟩
     simp only [↓DM,pval,DX,Nz,↓DN,Qa,Qb,Qc,Qd,Qe,Qf,Qg,Qh,reduceCtorEq,↓reduceIte,Na,Nb,Nc,Nk,Nf,Ng,Nh,Za,Zb,Zc,TT,t0,t1,two0,t2,bb]
     refine hK _ _ ?_;clear hK K
     refine jI ?_
     rw [hRES,hX0]
     exact ⟨_,_,AV.weak.refl _,AS.le.refl _,rfl,rfl⟩
   ·have t1:=notI k1
    by_cases kp : i % 2 = 0
    ·have t2 : (irem (i : Int) 2 == 0) = true:=by rw [hr2]; exact yesI (by omega)
     have t3 : (i % 2 == 0) = true:=by simpa using kp
     have hX0 : (true && ((nk == 0 || ((nk == 1) == (i % 2 == 0))) && !F)) = false:=by rw [t0,t1,t3]; cases F <;> rfl
     refine jQ fun K hK=>?_
     refine acallk (hnr _) ?_
     rintro r s2 ⟨rfl,rfl⟩
     simp only [↓DM,pval,DX,Nz,↓DN,Qa,Qb,Qc,Qd,Qe,Qf,Qg,Qh,reduceCtorEq,↓reduceIte,Na,Nb,Nc,Nk,Nf,Ng,Nh,Za,Zb,Zc,TT,t0,t1,two0,t2,bb]
     refine hK _ _ ?_;clear hK K
     refine jI ?_
     rw [hRES,hX0]
     exact ⟨_,_,AV.weak.refl _,AS.le.refl _,rfl,rfl⟩
    ·have t2 : (irem (i : Int) 2 == 0) = false:=by rw [hr2]; exact notI (by omega)
     have t3 : (i % 2 == 0) = false:=by simpa using kp
     have hX0 : (true && ((nk == 0 || ((nk == 1) == (i % 2 == 0))) && !F)) = !F:=by rw [t0,t1,t3]; cases F <;> rfl
     refine jQ fun K hK=>?_
     refine acallk (hnr _) ?_
     rintro r s2 ⟨rfl,rfl⟩
     simp only [↓DM,pval,DX,Nz,↓DN,Qa,Qb,Qc,Qd,Qe,Qf,Qg,Qh,reduceCtorEq,↓reduceIte,Na,Nb,Nc,Nk,Nf,Ng,Nh,Za,Zb,Zc,TT,t0,t1,two0,t2,bb]
     refine acallk (hcf _) ?_
     rintro r s3 ⟨rfl,rfl⟩
     refine jR hK ?_;clear hK K
     refine jI ?_
     rw [hRES,hX0]
     exact ⟨_,_,AV.weak.refl _,AS.le.refl _,rfl,rfl⟩
end Go.Proofs.YtfjlmkifiihgkaaGreatDoor
namespace Go.Proofs.YtfjlmkifiihgkaaGreatDoor
open Go Go.AM Go.Proofs
variable {Γ : Nat→List AV}
theorem named_none {t : List NodeV} {name : List UInt8} {a : Nat} : decide (0≤namedI t name (a + 1)) = false↔∀ j,j < hlf t→a < j→¬ (memI t (j : Int)∧(nd t (2 * j)).name = name):=by
 have h:=firstN_ge (fun (j : Nat)=>decide (memI t (j : Int)∧(nd t (2 * j)).name = name)) (hlf t - (a + 1)) (a + 1)
 constructor
 ·intro h1 j h2 h3 h4
  have : decide (0≤namedI t name (a + 1)) = true:=h.2 ⟨j,by omega,by omega,decide_eq_true h4⟩
  rw [h1] at this
  cases this
 ·intro h1
  cases hd : decide (0≤namedI t name (a + 1)) with
  | false=>rfl
  | true =>
   obtain ⟨j,h2,h3,h4⟩:=h.1 hd
   exact absurd (of_decide_eq_true h4) (h1 j (by omega) (by omega))
theorem right20_calls (hG : Γ 3 = dB64.map u8C) (t : List NodeV) (ht : TreeW t) (s : AS) : ACalls Tryz.prog Γ 24 [treeV t] s (fun r s'=>r = .v (.bool (decide (rightT t)))∧s' = s):=by
 refine acalls_body Tryz.func24 rfl Tryz.ntmps24 Tryz.results24 (by simp) ?_
 have htl:=ht.1
 have hlc:=fun s=>leaves_calls (Γ:=Γ) t htl s
 have hmc:=fun i s=>member_calls (Γ:=Γ) t htl i s
 have hfc:=fun i (h : i < t.length) s=>fits20_calls (Γ:=Γ) hG t ht i h s
 have hnc:=fun name a (h : a≤2 ^ 60) s=>named20_calls (Γ:=Γ) t htl name a h s
 have hcc:=fun a k h s=>members_calls (Γ:=Γ) t htl a k h s
 have hat:=fun i (h : i < t.length)=>node_at (t:=t) h
 have hlv:=lvs_le t
 have h0len : lvs t≠0→t.length = 2 * lvs t - 1:=fun h=>(lvs_zero_or.resolve_left h).2
 have hno0 : lvs t = 0→decide (rightT t) = false:=fun h=>decide_eq_false fun k=>k.1 h
 have hnoi : ∀ i,i < t.length→¬ goodAt t i→decide (rightT t) = false:=fun i h1 h2=>decide_eq_false fun k=>h2 (k.2.1 i h1)
 have hfin : lvs t≠0→(∀ i,i < t.length→goodAt t i)→decide (rightT t) = (((lvs t : Int) == 1) || decide ((0 : Int) < (cntN (memI t) (lvs t / 2) (lvs t - lvs t / 2) : Int))):=by
  intro h1 h2
  rw [Bool.eq_iff_iff,decide_eq_true_iff,Bool.or_eq_true,beq_iff_eq,decide_eq_true_iff]
  constructor
  ·rintro ⟨_,_,h3⟩
   exact h3.imp (fun q=>by omega) (fun q=>by omega)
  ·intro h3
   exact ⟨h1,h2,h3.imp (fun q=>by omega) (fun q=>by omega)⟩
 unfold treeV at *
 generalize rowC NodeV.cells t = X at *
 generalize decide (rightT t) = RES at *
 refine jA ?_
 refine jK (hlc _) ?_;rintro s1 rfl
 refine wK fun K hK=>?_
 refine jA ?_
 refine awp_block ?_
 refine awp_loop (fun E s2=>∃ i : Nat,i≤t.length∧(0 < i→lvs t≠0)∧(∀ j,j < i→goodAt t j)∧E 9 = .v (.int .i64 i)∧E 8 = .v (.int .i64 t.length)∧E 3 = .v (.int .i64 (lvs t))∧E 0 = .sl 5 t.length X .any∧s2 = s1)
  (fun E _=>match E 9 with | .v (.int _ i)=>t.length - i.toNat | _=>0) ?_ ?_
 ·exact ⟨0,Nat.zero_le _,fun h=>absurd h (Nat.lt_irrefl _),fun j h=>absurd h (Nat.not_lt_zero _),by simp only [upd,Nc,↓reduceIte]; rfl,by simp only [upd,Nc,↓reduceIte],by simp only [upd,Nc,↓reduceIte],by simp only [upd,initE,List.getD_cons_zero,List.getD_cons_succ,Nc,↓reduceIte],rfl⟩
 ·rintro E1 s2 ⟨i,hi,hn0,hall,g9,g8,g3,g0,rfl⟩ -
  by_cases hi' : i < t.length
  ·refine jB (Ai @g9 (Ai @g8 (Ai @eye_lt_nat (decide_eq_true hi')))) ?_
   refine wK fun K2 hK2=>?_
   refine jE ?_
   refine awp_skip ?_
   refine hK2 _ _ ?_;clear hK2 K2
   refine wK fun K3 hK3=>?_
   refine awp_block ?_
   refine jB @g9 ?_
   by_cases hz : lvs t = 0
   ·refine jB (Ai @g3 (nat0 hz)) ?_
    refine jE ?_
    refine jA ?_
    refine jI ?_
    rw [hno0 hz]
    exact ⟨_,_,AV.weak.refl _,AS.le.refl _,rfl,rfl⟩
   ·have hgood : goodAt t i↔fitsT t i∧(i % 2 = 0→memI t ((i / 2 : Nat) : Int)→decide (0≤namedI t (nd t i).name (i / 2 + 1)) = false):=by
     unfold goodAt
     rw [named_none]
    have hlen:=h0len hz
    have hat':=hat i hi'
    have hni:=fun s=>hnc (nd t i).name (i / 2 + 1) (by omega) s
    generalize hNI : namedI t (nd t i).name (i / 2 + 1) = NI at *
    generalize nd t i = N at *
    obtain ⟨nk,nm,ny,npa,nu⟩:=N
    unfold NodeV.cells at hat'
    simp only at hni
    have hge : (0 : Int)≤(i : Int):=by omega
    have hr2 : irem (i : Int) 2 = ((i % 2 : Nat) : Int):=irem_u i 2
    have hq2 : iquo .i64 (i : Int) 2 = ((i / 2 : Nat) : Int):=iquo_nat i (by omega)
    have hq3 : iadd .i64 ((i / 2 : Nat) : Int) 1 = ((i / 2 + 1 : Nat) : Int):=eye_succM _ (by omega)
    have hend : goodAt t i→∀ (E : Env),E 9 = .v (.int .i64 i)→E 8 = .v (.int .i64 t.length)→E 3 = .v (.int .i64 (lvs t))→E 0 = .sl 5 t.length X .any→K3 E s2:=by
     intro hg E f9 f8 f3 f0
     refine hK3 _ _ ?_;clear hK3 K3
     refine jD (Ai @f9 (eye_succM i (by omega))) ?_
     refine ⟨⟨i + 1,by omega,fun _=>hz,?_,by simp only [upd,Nc,↓reduceIte],by simp only [upd,f8,Nc,↓reduceIte],by simp only [upd,f3,Nc,↓reduceIte],by simp only [upd,f0,Nc,↓reduceIte],rfl⟩,?_⟩
     ·intro j hj
      by_cases e : j = i
      ·rw [e]; exact hg
      ·exact hall j (by omega)
     ·simp only [g9,upd,↓reduceIte]
      omega
    clear hK3
    refine jS (Ai @g3 (Ai (nat0F hz) @g0)) fun K hK=>?_
    refine acallk (hfc i hi' _) ?_
    rintro r s3 ⟨rfl,rfl⟩
    by_cases hf : fitsT t i
    ·rw [decide_eq_true hf]
     by_cases hp : i % 2 = 0
     ·have t2 : (irem (i : Int) 2 == 0) = true:=by rw [hr2]; exact yesI (by omega)
      simp only [↓DM,pval,DX,Nz,↓DN,Qa,Qb,Qc,Qd,Qe,Qf,Qg,Qh,reduceCtorEq,↓reduceIte,Na,Nb,Nc,Nk,Nf,Ng,Nh,Za,Zb,Zc,TT,two0,t2,g0,hq2]
      refine acallk (hmc _ _) ?_
      rintro r s4 ⟨rfl,rfl⟩
      by_cases hm : memI t ((i / 2 : Nat) : Int)
      ·rw [decide_eq_true hm]
       simp only [↓DM,pval,DX,Nz,↓DN,Qa,Qb,Qc,Qd,Qe,Qf,Qg,Qh,reduceCtorEq,↓reduceIte,Na,Nb,Nc,Nk,Nf,Ng,Nh,Za,Zb,Zc,TT,two0,g0,eye_lt_nat,hi',hge,hat',hq2,hq3]
       refine acallk (hni _) ?_
       rintro r s5 ⟨rfl,rfl⟩
       by_cases hn : 0≤NI
       ·have hbad : ¬ goodAt t i:=fun k=>by
         have:=(hgood.1 k).2 hp hm
         exact absurd hn (of_decide_eq_false this)
        refine jV (decide_eq_true hn) hK ?_;clear hK K
        refine jE ?_
        refine jA ?_
        refine jI ?_
        rw [hnoi i hi' hbad]
        exact ⟨_,_,AV.weak.refl _,AS.le.refl _,rfl,rfl⟩
       ·have hg : goodAt t i:=hgood.2 ⟨hf,fun _ _=>decide_eq_false hn⟩
        refine jV (decide_eq_false hn) hK ?_;clear hK K
        refine jF ?_
        refine awp_skip ?_
        simp only [blockQ,thenQ,if_true,if_false]
        exact hend hg _ (by simp only [upd,g9,Nc,↓reduceIte]) (by simp only [upd,g8,Nc,↓reduceIte]) (by simp only [upd,g3,Nc,↓reduceIte]) (by simp only [upd,g0,Nc,↓reduceIte])
      ·have hg : goodAt t i:=hgood.2 ⟨hf,fun _ k=>absurd k hm⟩
       rw [decide_eq_false hm]
       refine jR hK ?_;clear hK K
       refine jF ?_
       refine awp_skip ?_
       simp only [blockQ,thenQ,if_true,if_false]
       exact hend hg _ (by simp only [upd,g9,Nc,↓reduceIte]) (by simp only [upd,g8,Nc,↓reduceIte]) (by simp only [upd,g3,Nc,↓reduceIte]) (by simp only [upd,g0,Nc,↓reduceIte])
     ·have t2 : (irem (i : Int) 2 == 0) = false:=by rw [hr2]; exact notI (by omega)
      have hg : goodAt t i:=hgood.2 ⟨hf,fun k=>absurd k hp⟩
      simp only [↓DM,pval,DX,Nz,↓DN,Qa,Qb,Qc,Qd,Qe,Qf,Qg,Qh,reduceCtorEq,↓reduceIte,Na,Nb,Nc,Nk,Nf,Ng,Nh,Za,Zb,Zc,TT,two0,t2]
      refine hK _ _ ?_;clear hK K
      refine jF ?_
      refine awp_skip ?_
      simp only [blockQ,thenQ,if_true,if_false]
      exact hend hg _ (by simp only [upd,g9,Nc,↓reduceIte]) (by simp only [upd,g8,Nc,↓reduceIte]) (by simp only [upd,g3,Nc,↓reduceIte]) (by simp only [upd,g0,Nc,↓reduceIte])
    ·have hbad : ¬ goodAt t i:=fun k=>hf k.1
     rw [decide_eq_false hf]
     refine jR hK ?_;clear hK K
     refine jE ?_
     refine jA ?_
     refine jI ?_
     rw [hnoi i hi' hbad]
     exact ⟨_,_,AV.weak.refl _,AS.le.refl _,rfl,rfl⟩
  ·refine jB (Ai @g9 (Ai @g8 (Ai @eye_lt_nat (decide_eq_false hi')))) ?_
   refine wK fun K2 hK2=>?_
   refine jF ?_
   refine awp_exit ?_
   simp only [thenQ,blockQ,if_true]
   refine hK _ _ ?_;clear hK hK2 K2 K
   have hall' : ∀ j,j < t.length→goodAt t j:=fun j h=>hall j (by omega)
   by_cases hz : lvs t = 0
   ·have hp : decide ((0 : Int) < ((lvs t : Nat) : Int)) = false:=decide_eq_false (by omega)
    refine jB (Ai @g3 (Ai (notI (show ¬ ((lvs t : Nat) : Int) = 1 by omega)) @hp)) ?_
    refine jI ?_
    rw [hno0 hz]
    exact ⟨_,_,AV.weak.refl _,AS.le.refl _,rfl,rfl⟩
   ·have hp : decide ((0 : Int) < ((lvs t : Nat) : Int)) = true:=decide_eq_true (by omega)
    have hres:=hfin hz hall'
    by_cases h1 : lvs t = 1
    ·have e1:=yesI (show ((lvs t : Nat) : Int) = 1 by omega)
     rw [e1] at hres
     refine jB (Ai @g3 @e1) ?_
     refine jI ?_
     rw [hres]
     exact ⟨_,_,AV.weak.refl _,AS.le.refl _,rfl,rfl⟩
    ·have e1:=notI (show ¬ ((lvs t : Nat) : Int) = 1 by omega)
     rw [e1,Bool.false_or] at hres
     have e2 : iquo .i64 (lvs t : Int) 2 = ((lvs t / 2 : Nat) : Int):=iquo_nat _ (by omega)
     have e3 : isub .i64 (lvs t : Int) 1 = (((lvs t / 2 + (lvs t - lvs t / 2) : Nat)) : Int) - 1:=by rw [isub_i64 (by omega)]; omega
     have hcm:=fun s=>hcc (lvs t / 2) (lvs t - lvs t / 2) (by omega) s
     generalize (((lvs t / 2 + (lvs t - lvs t / 2) : Nat)) : Int) - 1 = LL at *
     refine jS (Ai @g3 (Ai @e1 (Ai @hp (Ai @two0 (Ai @e2 (Ai @e3 @g0)))))) fun K hK=>?_
     refine acallk (hcm _) ?_
     rintro r s3 ⟨rfl,rfl⟩
     refine jR hK ?_;clear hK K
     refine jI ?_
     rw [hres]
     exact ⟨_,_,AV.weak.refl _,AS.le.refl _,rfl,rfl⟩
end Go.Proofs.YtfjlmkifiihgkaaGreatDoor
namespace Go.AM
open Go
theorem lvs_of {t : List NodeV} {n : Nat} (h : Fit n) (hl : t.length = 2 * n - 1) : lvs t = n:=by
  have:=h.le
  unfold lvs
  rw [show (t.length + 1) / 2 = n by omega]
  exact if_pos ⟨h,hl⟩
theorem lvs_none {t : List NodeV} (h : ∀ n,Fit n→t.length≠2 * n - 1) : lvs t = 0:=by
  unfold lvs
  rw [if_neg]
  rintro ⟨a,b⟩
  exact h _ a b
theorem fit_pow {j : Nat} (h : j≤5) : Fit (2 ^ j):=(by decide : ∀ j≤5,Fit (2 ^ j)) j h
def goodR (t : List NodeV) (i : Nat) : Prop :=
  (nd t i).right∧((nd t i).kind = 0∨((nd t i).kind = 1↔i % 2 = 0))∧((nd t i).kind = 1→namedR t (nd t i).name = ((i / 2 : Nat) : Int))∧∀ u ∈ (nd t i).unm,(undI (i : Int)).1≤u∧u≤(undI (i : Int)).2∧memR t u
theorem namedR_spec {t : List NodeV} (name : List UInt8) : (∃ j,j < hlf t∧memR t (j : Int)∧(nd t (2 * j)).name = name∧namedR t name = (j : Int)∧∀ m,m < j→¬ (memR t (m : Int)∧(nd t (2 * m)).name = name))∨(namedR t name = -1∧∀ j,j < hlf t→¬ (memR t (j : Int)∧(nd t (2 * j)).name = name)):=by
  rcases firstN_spec (fun (j : Nat)=>decide (memR t (j : Int)∧(nd t (2 * j)).name = name)) (hlf t) 0 with ⟨h1,h2⟩ | ⟨j,h1,h2,h3,h4,h5⟩
  · exact .inr ⟨h1,fun j hj=>of_decide_eq_false (h2 j (Nat.zero_le _) (by omega))⟩
  · obtain ⟨h6,h7⟩:=of_decide_eq_true h3
    exact .inl ⟨j,by omega,h6,h7,h4,fun m hm=>of_decide_eq_false (h5 m (Nat.zero_le _) hm)⟩
theorem good_iff {t : List NodeV} (h0 : lvs t≠0) : (∀ i,i < t.length→goodR t i)↔(∀ i,i < t.length→goodAt t i):=by
  have hlen : t.length = 2 * lvs t - 1:=(lvs_zero_or.resolve_left h0).2
  have hm:=memR_iff (t:=t) h0
  have hfit : ∀ i,goodR t i→fitsT t i:=fun i ⟨a,b,_,d⟩=>⟨a,b,fun u hu=>⟨(d u hu).1,(d u hu).2.1,(hm u).1 (d u hu).2.2⟩⟩
  constructor
  · intro h i hi
    refine ⟨hfit i (h i hi),fun he hmi j hj hij ⟨hmj,hnj⟩=>?_⟩
    have h2j : 2 * j < t.length:=hlf_lt.1 hj
    have hgj:=(h (2 * j) h2j).2.2.1 (by have:=hmj.2.2; rwa [Int.toNat_natCast] at this)
    rw [show 2 * j / 2 = j by omega] at hgj
    rcases namedR_spec (t:=t) (nd t (2 * j)).name with ⟨k,_,_,_,h4,h5⟩ | ⟨h4,_⟩
    · rw [hgj] at h4
      refine h5 (i / 2) (by omega) ⟨(hm _).2 hmi,?_⟩
      rw [show 2 * (i / 2) = i by omega,hnj]
    · rw [hgj] at h4
      omega
  · intro h i hi
    obtain ⟨⟨a,b,c⟩,_⟩:=h i hi
    refine ⟨a,b,fun hk=>?_,fun u hu=>⟨(c u hu).1,(c u hu).2.1,(hm u).2 (c u hu).2.2⟩⟩
    have he : i % 2 = 0:=by
      rcases b with b | b
      · omega
      · exact b.1 hk
    have hi2 : 2 * (i / 2) = i:=by omega
    have hmi : memI t ((i / 2 : Nat) : Int):=⟨by omega,by omega,by rw [Int.toNat_natCast,hi2]; exact hk⟩
    rcases namedR_spec (t:=t) (nd t i).name with ⟨k,h1,h2,h3,h4,h5⟩ | ⟨_,h5⟩
    · rw [h4]
      by_cases e : k = i / 2
      · rw [e]
      · exfalso
        by_cases hlt : k < i / 2
        · have hg:=(h (2 * k) (by omega)).2 (by omega) (by rw [show 2 * k / 2 = k by omega]; exact (hm _).1 h2) (i / 2) (by unfold hlf; omega) (by omega)
          refine hg ⟨hmi,?_⟩
          rw [hi2,h3]
        · exact h5 (i / 2) (by omega) ⟨(hm _).2 hmi,by rw [hi2]⟩
    · exact absurd ⟨(hm _).2 hmi,by rw [hi2]⟩ (h5 (i / 2) (by unfold hlf; omega))
end Go.AM
namespace Go.AM
open Go
structure ListedV where
  leaf : Int
  name : List UInt8
  deriving DecidableEq
def ListedV.cells (x : ListedV) : List AV:=[.v (.int .i64 x.leaf),bytesV x.name .any]
theorem rightT.hlf {t : List NodeV} (h : rightT t) : hlf t = lvs t:=by
  have h1:=(lvs_zero_or.resolve_left h.1)
  have:=h1.1.le
  unfold Go.AM.hlf
  omega
theorem rightT.len {t : List NodeV} (h : rightT t) : t.length = 2 * lvs t - 1∧Fit (lvs t):=by
  have h1:=(lvs_zero_or.resolve_left h.1)
  exact ⟨h1.2,h1.1⟩
theorem rightT.nodes {t : List NodeV} (h : rightT t) {n : NodeV} (hn : n ∈ t) : n.right:=by
  obtain ⟨i,hi,rfl⟩:=List.getElem_of_mem hn
  have:=(h.2.1 i hi).1.1
  rwa [nd_get hi] at this
theorem rightT.nd {t : List NodeV} (h : rightT t) (i : Nat) : (nd t i).right:=by
  by_cases hi : i < t.length
  · exact (h.2.1 i hi).1.1
  · have : Go.AM.nd t i = NodeV.nought:=by simp [Go.AM.nd,List.getD,show t.length≤i by omega]
    rw [this]; exact nought_right
end Go.AM
namespace Go.AM
open Go
def nodesText (l : List NodeV) : List UInt8:=(l.map NodeV.text).flatten
def treeText (t : List NodeV) : List UInt8:=be 1 (lvs t) ++ nodesText t
def treePen (t : List NodeV) (st : List UInt8 × Bool) : List UInt8 × Bool:=if rightT t then penRaw (treeText t) st else (st.1,true)
def eyeNodes : Nat→EyeSt→List NodeV × EyeSt
  | 0,st=>([],st)
  | n + 1,st=>((eyeNodes n st).1 ++ [(nodeRead (eyeNodes n st).2).1],(nodeRead (eyeNodes n st).2).2)
def failE (e : Int) (st : EyeSt) : EyeSt:=(st.1,if st.2 = 0 then e else st.2)
def treeEnd (q : List NodeV × EyeSt) : List NodeV × EyeSt :=
  let c:=if rightT q.1 then q.2 else failE 40 q.2
  (if c.2 = 0 then q.1 else [],c)
def treeRead (st : EyeSt) : List NodeV × EyeSt :=
  let q:=eyeNum 1 st
  if Fit q.1 then treeEnd (eyeNodes (2 * q.1 - 1) q.2) else ([],failE 40 q.2)
theorem nodesText_snoc (l : List NodeV) (x : NodeV) : nodesText (l ++ [x]) = nodesText l ++ x.text:=by simp [nodesText]
theorem nodesText_len : ∀ {l : List NodeV},(∀ n ∈ l,n.right)→(nodesText l).length≤l.length * 100
  | [],_=>by simp [nodesText]
  | a :: l,h=>by
    have ih:=nodesText_len (l:=l) fun x hx=>h x (by simp [hx])
    have h1:=NodeV.text_len (h a (by simp))
    have : nodesText (a :: l) = a.text ++ nodesText l:=rfl
    rw [this,List.length_append,List.length_cons,Nat.succ_mul]
    omega
theorem treeText_len {t : List NodeV} (h : rightT t) : (treeText t).length≤6400:=by
  have h1:=nodesText_len fun n hn=>h.nodes hn
  obtain ⟨h2,h3⟩:=h.len
  have h4:=h3.le
  have h5 : t.length * 100≤63 * 100:=Nat.mul_le_mul_right _ (by omega)
  simp [treeText]; omega
theorem eyeNodes_len : ∀ (n : Nat) (st : EyeSt),(eyeNodes n st).1.length = n
  | 0,_=>rfl
  | n + 1,st=>by simp [eyeNodes,eyeNodes_len n st]
theorem eyeNodes_left : ∀ (n : Nat) (st : EyeSt),(eyeNodes n st).2.1.length≤st.1.length
  | 0,_=>Nat.le_refl _
  | n + 1,st=>Nat.le_trans (nodeRead_left _) (eyeNodes_left n st)
theorem nodeRead_key (st : EyeSt) : (nodeRead st).1.key < 2 ^ 64:=by
  simp only [nodeRead]
  split
  · simp only [nodeRaw,nodeC]
    split
    · exact Nat.lt_of_lt_of_le (eyeNum_lt 8 _) (by decide)
    · exact (by decide : (0 : Nat) < 2 ^ 64)
  · exact (by decide : (0 : Nat) < 2 ^ 64)
theorem eyeNodes_mem : ∀ (n : Nat) (st : EyeSt) (x : NodeV),x ∈ (eyeNodes n st).1→x.unm.length < 256∧x.key < 2 ^ 64
  | 0,_,x,h=>by cases h
  | n + 1,st,x,h=>by
    simp only [eyeNodes,List.mem_append,List.mem_singleton] at h
    rcases h with h | rfl
    · exact eyeNodes_mem n st x h
    · exact ⟨nodeRead_unm _,nodeRead_key _⟩
theorem eyeNodes_W (n : Nat) (hn : n≤2 ^ 40) (st : EyeSt) : TreeW (eyeNodes n st).1:=by
  refine ⟨by rw [eyeNodes_len]; omega,fun x hx=>?_⟩
  have:=eyeNodes_mem n st x hx
  omega
theorem eyeNodes_text {t : List NodeV} (ht : ∀ n ∈ t,n.right) (rest : List UInt8) : ∀ n,n≤t.length→eyeNodes n (nodesText t ++ rest,0) = (t.take n,(nodesText (t.drop n) ++ rest,0))
  | 0,_=>by simp [eyeNodes]
  | n + 1,h=>by
    have ih:=eyeNodes_text ht rest n (by omega)
    have hn : n < t.length:=by omega
    have e : nodesText (t.drop n) = (t[n]).text ++ nodesText (t.drop (n + 1)):=by
      rw [List.drop_eq_getElem_cons hn]
      simp only [nodesText,List.map_cons,List.flatten_cons]
    have e2 : nodeRead (nodesText (t.drop n) ++ rest,0) = (t[n],nodesText (t.drop (n + 1)) ++ rest,0):=by
      rw [e,List.append_assoc]
      exact nodeRead_text (ht _ (List.getElem_mem hn)) _
    simp only [eyeNodes,ih,e2]
    rw [List.take_succ_eq_append_getElem hn]
theorem treeRead_text {t : List NodeV} (h : rightT t) (rest : List UInt8) : treeRead (treeText t ++ rest,0) = (t,rest,0):=by
  obtain ⟨h2,h3⟩:=h.len
  have h4:=h3.le
  have e : eyeNum 1 (treeText t ++ rest,0) = (lvs t,nodesText t ++ rest,0):=by
    unfold treeText
    rw [List.append_assoc]
    exact eyeNum_be (by omega)
  simp only [treeRead,e,if_pos h3,← h2,eyeNodes_text (fun n hn=>h.nodes hn) rest _ (Nat.le_refl _),List.take_length,List.drop_length]
  simp [treeEnd,h,nodesText]
theorem treeRead_left (st : EyeSt) : (treeRead st).2.1.length≤st.1.length:=by
  simp only [treeRead]
  split
  · simp only [treeEnd]
    refine Nat.le_trans ?_ (Nat.le_trans (eyeNodes_left (2 * (eyeNum 1 st).1 - 1) (eyeNum 1 st).2) (eyeNum_len 1 st))
    split
    · exact Nat.le_refl _
    · exact Nat.le_refl _
  · exact eyeNum_len _ _
theorem treeRead_right {st : EyeSt} (h : (treeRead st).2.2 = 0) : rightT (treeRead st).1:=by
  simp only [treeRead] at h ⊢
  split
  · rename_i hf
    rw [if_pos hf] at h
    simp only [treeEnd] at h ⊢
    rw [if_pos h]
    by_cases hr : rightT (eyeNodes (2 * (eyeNum 1 st).1 - 1) (eyeNum 1 st).2).1
    · exact hr
    · rw [if_neg hr] at h
      simp only [failE] at h
      split at h
      · cases h
      · contradiction
  · rename_i hf
    rw [if_neg hf] at h
    simp only [failE] at h
    split at h
    · cases h
    · contradiction
theorem treeRead_none {st : EyeSt} (h : (treeRead st).2.2≠0) : (treeRead st).1 = []:=by
  simp only [treeRead] at h ⊢
  split
  · rename_i hf
    rw [if_pos hf] at h
    simp only [treeEnd] at h ⊢
    rw [if_neg h]
  · rfl
end Go.AM
namespace Go.AM
open Go Go.RowKit Go.Shelf Go.Proofs
variable {P : Program} {Γ : Nat→List AV} {G : Gh} {s : AS} {w : World} {N : Nat}
def intW (i : Int) : Value:=.int .i64 i
theorem VRels.ints {G : Gh} (l : List Int) : VRels G (l.map intC) (l.map intW):=by
  induction l with
  | nil=>simp [VRels]
  | cons i l ih=>simp only [List.map_cons,VRels]; exact ⟨intW i,_,rfl,by simp [intC,intW,VRel],ih⟩
end Go.AM
namespace Go.AM
open Go
theorem kids_leaf {n : Nat} (h : n < 63) (hl : lv n = 0) : kidsI (n : Int) = none:=by unfold kidsI; rw [lvI_nat h,if_pos hl]
theorem kids_branch {n l : Nat} (h : n < 63) (hl : lv n = l + 1) : kidsI (n : Int) = some (((n - 2 ^ l : Nat) : Int),((n + 2 ^ l : Nat) : Int))∧lv (n - 2 ^ l) = l∧lv (n + 2 ^ l) = l∧n + 2 ^ l < 63∧2 ^ l≤n∧2 ^ l≤32:=by
  have key : ∀ n < 63,lv n≠0→lv (n - 2 ^ (lv n - 1)) = lv n - 1∧lv (n + 2 ^ (lv n - 1)) = lv n - 1∧n + 2 ^ (lv n - 1) < 63∧2 ^ (lv n - 1)≤n∧2 ^ lv n / 2 = 2 ^ (lv n - 1)∧2 ^ (lv n - 1)≤32:=by decide +kernel
  obtain ⟨k1,k2,k3,k4,k5,k6⟩:=key n h (by omega)
  rw [hl] at k1 k2 k3 k4 k5 k6
  simp only [Nat.add_sub_cancel] at k1 k2 k3 k4 k5 k6
  refine ⟨?_,k1,k2,k3,k4,k6⟩
  unfold kidsI
  rw [lvI_nat h,if_neg (by omega),hl,k5]
  congr 2
  omega
theorem span_le {L n : Nat} (h : Fit L) (hn : n < 2 * L - 1) : n + 2 ^ lv n≤2 * L - 1∧n < 63:=by
  obtain ⟨m,hm,rfl⟩:=h.pow
  exact (by decide +kernel : ∀ m≤5,∀ n < 2 * 2 ^ m - 1,n + 2 ^ lv n≤2 * 2 ^ m - 1∧n < 63) m hm n hn
theorem rightT.span {t : List NodeV} (h : rightT t) {n : Nat} (hn : n < t.length) : n + 2 ^ lv n≤t.length∧n < 63:=by
  obtain ⟨h1,h2⟩:=h.len
  rw [h1] at hn ⊢
  exact span_le h2 hn
end Go.AM
namespace Go.AM
open Go
theorem right_unm {N : NodeV} (h : N.right) : N.unm.length≤32∧∀ u ∈ N.unm,0≤u∧u < 32:=by
  rcases node_kind h with hk | hk | hk
  · rw [(right_zero hk).1 h]
    exact ⟨by decide,(by intro u hu; cases hu)⟩
  · have:=((right_one hk).1 h).2.2.2
    rw [List.eq_nil_of_length_eq_zero this]
    exact ⟨by decide,(by intro u hu; cases hu)⟩
  · have:=((right_two hk).1 h).2.2
    exact ⟨rising_len this,fun u hu=>rising_mem this hu⟩
end Go.AM
namespace Go.AM
open Go Go.RowKit
variable {P : Program} {Γ : Nat→List AV} {G : Gh} {s : AS} {w : World} {N : Nat}
def onm : AV→Option Nat
  | .osl o _ _ _ _=>some o
  | _=>none
def cellsX (p : NodeV × AV) : List AV:=[.v (.int .i64 p.1.kind),bytesV p.1.name .any,.v (.int .u64 p.1.key),bytesV p.1.parent .any,p.2]
theorem cellsX_len (p : NodeV × AV) : (cellsX p).length = 5:=rfl
theorem cells_len (n : NodeV) : n.cells.length = 5:=rfl
theorem OBuf.le {sz n : Nat} {x : AV} {cs : List AV} {s s' : AS} (h : OBuf sz s x n cs) (k : s.le s') : OBuf sz s' x n cs:=by
  rcases h with h | ⟨o,cap,rest,h1,h2,h3⟩
  · exact .inl h
  · exact .inr ⟨o,cap,rest,h1,k.objs _ _ h2,h3⟩
theorem OBuf.set_ne {sz n : Nat} {x : AV} {cs : List AV} {s : AS} {o : Nat} {ds : List AV} (h : OBuf sz s x n cs) (k : onm x≠some o) : OBuf sz (s.set o ds) x n cs:=by
  rcases h with h | ⟨o',cap,rest,rfl,h2,h3⟩
  · exact .inl h
  · exact .inr ⟨o',cap,rest,rfl,by rw [AS.set_objs_ne _ (fun e=>k (by rw [e]; rfl))]; exact h2,h3⟩
theorem OBuf.drop_ne {sz n : Nat} {x : AV} {cs : List AV} {s : AS} {o : Nat} (h : OBuf sz s x n cs) (k : onm x≠some o) : OBuf sz (s.drop o) x n cs:=by
  rcases h with h | ⟨o',cap,rest,rfl,h2,h3⟩
  · exact .inl h
  · exact .inr ⟨o',cap,rest,rfl,by rw [AS.drop_objs,upd_ne _ _ (fun e=>k (by rw [e]; rfl))]; exact h2,h3⟩
theorem OBuf.some {sz n : Nat} {x : AV} {cs : List AV} {s : AS} {o : Nat} (h : OBuf sz s x n cs) (k : onm x = some o) : ∃ ds,s.objs o = some ds:=by
  rcases h with ⟨_,_,rfl | rfl | rfl⟩ | ⟨o',cap,rest,rfl,h2,h3⟩
  · cases k
  · cases k
  · cases k
  · cases k; exact ⟨_,h2⟩
theorem empty_weak {sz : Nat} {sp : Sp} (h : sp = .full∨sp = .new) : (AV.sl sz 0 [] sp).weak (.sl sz 0 [] .any):=by
  intro G u hv
  simp only [VRel] at hv ⊢
  rcases hv with ⟨b,off,cap,vs,h1,h2,h3,h4,h5,h6⟩ | ⟨_,_,a,cap,h1,_⟩ | ⟨_,_,h1,_⟩
  · exact .inl ⟨b,off,cap,vs,h1,h2,h3,h4,h5,trivial⟩
  · exact .inr (.inl ⟨trivial,trivial,a,cap,h1,by simp⟩)
  · rcases h with rfl | rfl <;> cases h1
structure XsOk (s0 s : AS) (T : List (NodeV × AV)) : Prop where
  buf : ∀ p ∈ T,OBuf 1 s p.2 p.1.unm.length (p.1.unm.map intC)
  new : ∀ p ∈ T,∀ o,onm p.2 = some o→s0.objs o = none
  sep : T.Pairwise fun p q=>∀ o,onm p.2 = some o→onm q.2≠some o
structure TreeO (s0 s : AS) (X : AV) (T : List (NodeV × AV)) : Prop where
  xs : XsOk s0 s T
  le : s0.le s
  row : OBuf 5 s X T.length (rowC cellsX T)
  newR : ∀ O,onm X = some O→s0.objs O = none
  sepR : ∀ O,onm X = some O→∀ p ∈ T,onm p.2≠some O
theorem AS.le_none {s s' : AS} (h : s.le s') {o : Nat} (k : s'.objs o = none) : s.objs o = none:=by
  cases hs : s.objs o with
  | none=>rfl
  | some cs=>rw [h.objs _ _ hs] at k; cases k
theorem TreeO.nil (s : AS) : TreeO s s nilS [] :=
  ⟨⟨fun p hp=>absurd hp (List.not_mem_nil),fun p hp=>absurd hp (List.not_mem_nil),.nil⟩,.refl s,.inl ⟨rfl,rfl,.inl rfl⟩,(fun O h=>by cases h),(fun O h=>by cases h)⟩
theorem TreeO.push {s0 s : AS} {X : AV} {T : List (NodeV × AV)} {p : NodeV × AV} {ob cap : Nat} {rest : List AV} (h : TreeO s0 s X T) (hb : OBuf 1 s p.2 p.1.unm.length (p.1.unm.map intC))
    (h1 : ∀ o,onm p.2 = some o→s0.objs o = none∧(∀ q ∈ T,onm q.2≠some o)∧onm X≠some o) (h2 : s.objs ob = none∨∃ cap0,X = .osl ob 0 5 T.length cap0) (h3 : T.length + 1≤cap) (h4 : cap < 2 ^ 63) (h5 : rest.length = (cap - (T.length + 1)) * 5) :
    TreeO s0 (s.set ob (rowC cellsX T ++ cellsX p ++ rest)) (.osl ob 0 5 (T.length + 1) cap) (T ++ [p]):=by
  have hob0 : s0.objs ob = none:=by
    rcases h2 with h2 | ⟨cap0,h2⟩
    · exact AS.le_none h.le h2
    · exact h.newR ob (by rw [h2]; rfl)
  have hne : ∀ q ∈ T ++ [p],onm q.2≠some ob:=by
    intro q hq e
    rw [List.mem_append,List.mem_singleton] at hq
    rcases h2 with h2 | ⟨cap0,h2⟩
    · have : ∃ ds,s.objs ob = some ds:=by
        rcases hq with hq | rfl
        · exact (h.xs.buf q hq).some e
        · exact hb.some e
      rw [h2] at this
      obtain ⟨ds,hd⟩:=this
      cases hd
    · have hX : onm X = some ob:=by rw [h2]; rfl
      rcases hq with hq | rfl
      · exact h.sepR ob hX q hq e
      · exact (h1 ob e).2.2 hX
  refine ⟨⟨fun q hq=>?_,fun q hq o ho=>?_,?_⟩,AS.le_set h.le hob0 _,.inr ⟨ob,cap,rest,by rw [List.length_append]; rfl,by rw [AS.set_objs_same,row_snoc],?_,by rw [List.length_append]; exact h5,by rw [List.length_append]; exact h3,h4⟩,fun O hO=>?_,fun O hO q hq=>?_⟩
  · have hq':=hq
    rw [List.mem_append,List.mem_singleton] at hq
    rcases hq with hq | rfl
    · exact (h.xs.buf q hq).set_ne (hne q hq')
    · exact hb.set_ne (hne q hq')
  · rw [List.mem_append,List.mem_singleton] at hq
    rcases hq with hq | rfl
    · exact h.xs.new q hq o ho
    · exact (h1 o ho).1
  · rw [List.pairwise_append]
    refine ⟨h.xs.sep,List.pairwise_singleton _ _,fun a ha b hb' o ho=>?_⟩
    rw [List.mem_singleton] at hb'
    subst hb'
    intro e
    exact (h1 o e).2.1 a ha ho
  · exact row_len cellsX_len _
  · cases hO; exact hob0
  · cases hO; exact hne q hq
theorem settle_xs {s0 : AS} {O : Nat} {rest : List AV} (hO0 : s0.objs O = none) (x : AV) : ∀ (B : List (NodeV × AV)) (A : List NodeV) (s : AS),XsOk s0 s B→s0.le s→(∀ p ∈ B,onm p.2≠some O)→s.objs O = some (rowC NodeV.cells A ++ rowC cellsX B ++ rest) →
    ∃ s',Settles Γ s x s' x∧s'.objs O = some (rowC NodeV.cells (A ++ B.map (·.1)) ++ rest)∧s0.le s':=by
  intro B
  induction B with
  | nil =>
    intro A s _ hle _ hO
    refine ⟨s,.refl x,?_,hle⟩
    simpa [rowC] using hO
  | cons p B ih =>
    intro A s hx hle hne hO
    have hsplit : rowC NodeV.cells A ++ rowC cellsX (p :: B) ++ rest = (rowC NodeV.cells A ++ [.v (.int .i64 p.1.kind),bytesV p.1.name .any,.v (.int .u64 p.1.key),bytesV p.1.parent .any]) ++ p.2 :: (rowC cellsX B ++ rest):=by
      simp [rowC,cellsX]
    rw [hsplit] at hO
    have hjoin : (rowC NodeV.cells A ++ [.v (.int .i64 p.1.kind),bytesV p.1.name .any,.v (.int .u64 p.1.key),bytesV p.1.parent .any]) ++ intsV p.1.unm .any :: (rowC cellsX B ++ rest) = rowC NodeV.cells (A ++ [p.1]) ++ rowC cellsX B ++ rest:=by
      simp [rowC,NodeV.cells]
    have hsep:=List.pairwise_cons.1 hx.sep
    have hp : p ∈ p :: B:=List.mem_cons_self
    have hrest : ∀ s' : AS,(∀ q ∈ B,OBuf 1 s' q.2 q.1.unm.length (q.1.unm.map intC))→XsOk s0 s' B:=fun s' h=>⟨h,fun q hq=>hx.new q (List.mem_cons_of_mem _ hq),hsep.2⟩
    rcases hx.buf p hp with ⟨h0,hl0,hv⟩ | ⟨o,cap,rs,hv,ho,hcl,hrl,hnc,h63⟩
    · have hw : p.2.weak (intsV p.1.unm .any):=by
        have hu : p.1.unm = []:=List.eq_nil_of_length_eq_zero h0
        rw [hu]
        rcases hv with hv | hv | hv
        · rw [hv]; exact AV.weak_nil
        · rw [hv]; exact empty_weak (.inl rfl)
        · rw [hv]; exact empty_weak (.inr rfl)
      have h1:=Settles.cells (Γ:=Γ) x hO hw
      rw [hjoin] at h1
      obtain ⟨s',k1,k2,k3⟩:=ih (A ++ [p.1]) _ (hrest _ fun q hq=>(hx.buf q (List.mem_cons_of_mem _ hq)).set_ne (hne q (List.mem_cons_of_mem _ hq))) (AS.le_set hle hO0 _) (fun q hq=>hne q (List.mem_cons_of_mem _ hq)) (AS.set_objs_same _ _ _)
      refine ⟨s',h1.trans k1,?_,k3⟩
      simpa using k2
    · have hpo : onm p.2 = some o:=by rw [hv]; rfl
      have hOo : O≠o:=fun e=>hne p hp (by rw [hpo,e])
      rw [hv] at hO
      have h1:=Settles.inner (Γ:=Γ) x hO ho hOo hcl
      have e : (AV.sl 1 p.1.unm.length (p.1.unm.map intC) .any) = intsV p.1.unm .any:=rfl
      rw [e,hjoin] at h1
      obtain ⟨s',k1,k2,k3⟩:=ih (A ++ [p.1]) _ (hrest _ fun q hq=>((hx.buf q (List.mem_cons_of_mem _ hq)).drop_ne (hsep.1 q hq o hpo)).set_ne (hne q (List.mem_cons_of_mem _ hq))) (AS.le_set (AS.le_drop hle (hx.new p hp o hpo)) hO0 _) (fun q hq=>hne q (List.mem_cons_of_mem _ hq)) (AS.set_objs_same _ _ _)
      refine ⟨s',h1.trans k1,?_,k3⟩
      simpa using k2
theorem TreeO.settle {s0 s : AS} {X : AV} {T : List (NodeV × AV)} (h : TreeO s0 s X T) : ∃ s',Settles Γ s X s' (treeV (T.map (·.1)))∧s0.le s':=by
  rcases h.row with ⟨h0,hl0,hv⟩ | ⟨O,cap,rest,hv,hO,hcl,hrl,hnc,h63⟩
  · have hT : T = []:=List.eq_nil_of_length_eq_zero h0
    subst hT
    refine ⟨s,Settles.weak ?_,h.le⟩
    rcases hv with hv | hv | hv
    · rw [hv]; exact AV.weak_nil
    · rw [hv]; exact empty_weak (.inl rfl)
    · rw [hv]; exact empty_weak (.inr rfl)
  · have hX : onm X = some O:=by rw [hv]; rfl
    obtain ⟨s1,k1,k2,k3⟩:=settle_xs (Γ:=Γ) (h.newR O hX) X T [] s h.xs h.le (h.sepR O hX) (by simpa [rowC] using hO)
    rw [List.nil_append] at k2
    have k4:=Settles.outer (Γ:=Γ) (n:=T.length) (sz:=5) (cap:=cap) k2 (by rw [row_len cells_len,List.length_map])
    rw [hv] at k1 ⊢
    refine ⟨_,k1.trans ?_,AS.le_drop k3 (h.newR O hX)⟩
    unfold treeV
    rw [List.length_map]
    exact k4
end Go.AM
namespace Go.AM
open Go Go.RowKit
variable {P : Program} {Γ : Nat→List AV} {G : Gh} {s : AS} {w : World} {N : Nat}
theorem flat_bytes' (l : List UInt8) : ∀ c ∈ l.map byteV,∃ x,c = .v x:=by
  intro c hc
  obtain ⟨b,_,rfl⟩:=List.mem_map.1 hc
  exact ⟨_,rfl⟩
theorem flat_ints' (l : List Int) : ∀ c ∈ l.map intC,∃ x,c = .v x:=by
  intro c hc
  obtain ⟨b,_,rfl⟩:=List.mem_map.1 hc
  exact ⟨_,rfl⟩
theorem View.nilZ {sz : Nat} : View Γ s (.v (.slice none 0 0)) (.sl sz 0 [] .any):=fun G w u _ hv=>AV.weak_nil _ _ (by simpa [Go.AM.nilS,VRel] using hv)
theorem OBuf.view {sz n : Nat} {x : AV} {cs ds : List AV} (h : OBuf sz s x n cs) (k : Views Γ s cs ds) (hd : cs = []→ds = []) : View Γ s x (.sl sz n ds .any):=by
  rcases h with ⟨rfl,h0,hx⟩ | ⟨o,cap,rest,rfl,ho,hcl,_⟩
  · rw [hd h0]
    rcases hx with rfl | rfl | rfl
    · exact View.nilZ
    · exact View.empty (.inl rfl)
    · exact View.empty (.inr rfl)
  · exact View.osl2 ho hcl k
theorem views_row {s0 : AS} : ∀ {T : List (NodeV × AV)},(∀ p ∈ T,OBuf 1 s p.2 p.1.unm.length (p.1.unm.map intC))→Views Γ s (rowC cellsX T) (rowC NodeV.cells (T.map (·.1)))
  | [],_=>by simpa [rowC] using (Views.nil : Views Γ s [] [])
  | p :: T,h=>by
    have h1 : Views Γ s (cellsX p) p.1.cells:=by
      refine .cons .val (.cons (View.sl (flat_bytes' _)) (.cons .val (.cons (View.sl (flat_bytes' _)) (.cons ?_ .nil))))
      exact (h p (List.mem_cons_self)).view (Views.flat (flat_ints' _)) (fun e=>e)
    have h2:=views_row (s0:=s0) (T:=T) (fun q hq=>h q (List.mem_cons_of_mem _ hq))
    have e1 : rowC cellsX (p :: T) = cellsX p ++ rowC cellsX T:=by simp [rowC]
    have e2 : rowC NodeV.cells ((p :: T).map (·.1)) = p.1.cells ++ rowC NodeV.cells (T.map (·.1)):=by simp [rowC]
    rw [e1,e2]
    exact h1.append h2
theorem TreeO.view {s0 : AS} {X : AV} {T : List (NodeV × AV)} (h : TreeO s0 s X T) : View Γ s X (treeV (T.map (·.1))):=by
  have:=h.row.view (views_row (Γ:=Γ) (s0:=s0) h.xs.buf) (fun e=>by
    cases T with
    | nil=>rfl
    | cons p T=>simp [rowC,cellsX] at e)
  unfold treeV
  rw [List.length_map]
  exact this
end Go.AM
namespace Go.AM
open Go
def leafN (name : List UInt8) (key : Nat) : NodeV:=⟨1,name,key,[],[]⟩
def treeN (t : List NodeV) : AV:=if t = [] then nilS else treeV t
end Go.AM
namespace Go.AM
open Go Go.RowKit
variable {Γ : Nat→List AV} {s : AS}
theorem TreeO.put {s0 s s1 : AS} {O cap : Nat} {rest : List AV} {T : List (NodeV × AV)} {i : Nat} {p : NodeV × AV} {n : Nat} (h : TreeO s0 s (.osl O 0 5 n cap) T) (hi : i < T.length) (hn : n = T.length)
    (hle : ∀ o,o≠O→(∀ ob,onm p.2 = some ob→o≠ob)→∀ cs,s.objs o = some cs→s1.objs o = some cs) (hle0 : s0.le s1) (hb : OBuf 1 s1 p.2 p.1.unm.length (p.1.unm.map intC)) (hO : s1.objs O = some (rowC cellsX (T.set i p) ++ rest)) (hrl : rest.length = (cap - T.length) * 5) (hcap : T.length≤cap) (h63 : cap < 2 ^ 63)
    (hnew : ∀ ob,onm p.2 = some ob→ob≠O∧s0.objs ob = none∧∀ j (hj : j < T.length),j≠i→onm (T[j]).2≠some ob) : TreeO s0 s1 (.osl O 0 5 n cap) (T.set i p):=by
  have hsep:=List.pairwise_iff_getElem.1 h.xs.sep
  have hget : ∀ j (hj : j < (T.set i p).length),(T.set i p)[j] = if i = j then p else T[j]'(by simpa using hj):=fun j hj=>List.getElem_set ..
  refine ⟨⟨fun q hq=>?_,fun q hq o ho=>?_,?_⟩,hle0,.inr ⟨O,cap,rest,by simp [hn],hO,by rw [row_len cellsX_len],by simpa using hrl,by simpa using hcap,h63⟩,h.newR,fun O' hO' q hq=>?_⟩
  · obtain ⟨j,hj,rfl⟩:=List.mem_iff_getElem.1 hq
    rw [hget]
    split
    · exact hb
    · rename_i hne
      have hj' : j < T.length:=by simpa using hj
      rcases h.xs.buf _ (List.getElem_mem hj') with h1 | ⟨o,c,rs,h1,h2,h3⟩
      · exact .inl h1
      · have ho : onm (T[j]).2 = some o:=by rw [h1]; rfl
        exact .inr ⟨o,c,rs,h1,hle o (fun e=>h.sepR O rfl _ (List.getElem_mem hj') (by rw [ho,e])) (fun ob hob e=>(hnew ob hob).2.2 j hj' (fun e=>hne e.symm) (by rw [ho,e])) _ h2,h3⟩
  · obtain ⟨j,hj,rfl⟩:=List.mem_iff_getElem.1 hq
    rw [hget] at ho
    split at ho
    · exact (hnew o ho).2.1
    · exact h.xs.new _ (List.getElem_mem _) o ho
  · rw [List.pairwise_iff_getElem]
    intro a b ha hb' hab o ho
    rw [hget] at ho ⊢
    have ha' : a < T.length:=by simpa using ha
    have hb'' : b < T.length:=by simpa using hb'
    by_cases ea : i = a
    · rw [if_pos ea] at ho
      rw [if_neg (by omega)]
      exact (hnew o ho).2.2 b hb'' (by omega)
    · rw [if_neg ea] at ho
      by_cases eb : i = b
      · rw [if_pos eb]
        intro e
        exact (hnew o e).2.2 a ha' (by omega) ho
      · rw [if_neg eb]
        exact hsep a b ha' hb'' hab o ho
  · obtain ⟨j,hj,rfl⟩:=List.mem_iff_getElem.1 hq
    cases hO'
    rw [hget]
    split
    · exact fun e=>(hnew O e).1 rfl
    · exact h.sepR O rfl _ (List.getElem_mem _)
end Go.AM
namespace Go.AM
namespace Sha
def add32 (a b : Nat) : Nat:=(a + b) % 4294967296
def rotr (x n : Nat) : Nat:=(x / 2 ^ n) ||| ((x * 2 ^ (32 - n)) % 4294967296)
def sig3 (x a b c : Nat) : Nat:=(rotr x a ^^^ rotr x b) ^^^ rotr x c
def sig2 (x a b c : Nat) : Nat:=(rotr x a ^^^ rotr x b) ^^^ (x / 2 ^ c)
def be32 (a b c d : Nat) : Nat:=((a * 256 + b) * 256 + c) * 256 + d
def word (c : List UInt8) (p : List Nat) (i : Nat) : Nat :=
  if i < 16 then be32 ((c.getD (4 * i) 0).toNat) ((c.getD (4 * i + 1) 0).toNat) ((c.getD (4 * i + 2) 0).toNat) ((c.getD (4 * i + 3) 0).toNat)
  else add32 (add32 (add32 (sig2 (p.getD (i - 2) 0) 17 19 10) (p.getD (i - 7) 0)) (sig2 (p.getD (i - 15) 0) 7 18 3)) (p.getD (i - 16) 0)
def sch (c : List UInt8) : Nat→List Nat
  | 0=>[]
  | n + 1=>sch c n ++ [word c (sch c n) n]
theorem sch_length (c : List UInt8) (n : Nat) : (sch c n).length = n:=by
  induction n with
  | zero=>rfl
  | succ n ih=>simp [sch,ih]
def t1 (e f g h k w : Nat) : Nat:=add32 (add32 (add32 (add32 h (sig3 e 6 11 25)) ((e &&& f) ^^^ ((4294967295 - e) &&& g))) k) w
def t2 (a b c : Nat) : Nat:=add32 (sig3 a 2 13 22) (((a &&& b) ^^^ (a &&& c)) ^^^ (b &&& c))
structure St where
  a : Nat
  b : Nat
  c : Nat
  d : Nat
  e : Nat
  f : Nat
  g : Nat
  h : Nat
def St.step (s : St) (k w : Nat) : St :=
  ⟨add32 (t1 s.e s.f s.g s.h k w) (t2 s.a s.b s.c),s.a,s.b,s.c,add32 s.d (t1 s.e s.f s.g s.h k w),s.e,s.f,s.g⟩
def St.add (s t : St) : St:=⟨add32 s.a t.a,add32 s.b t.b,add32 s.c t.c,add32 s.d t.d,add32 s.e t.e,add32 s.f t.f,add32 s.g t.g,add32 s.h t.h⟩
def St.list (s : St) : List Nat:=[s.a,s.b,s.c,s.d,s.e,s.f,s.g,s.h]
structure St.ok (s : St) : Prop where
  a : s.a < 4294967296
  b : s.b < 4294967296
  c : s.c < 4294967296
  d : s.d < 4294967296
  e : s.e < 4294967296
  f : s.f < 4294967296
  g : s.g < 4294967296
  h : s.h < 4294967296
def K : List Nat:=[
  0x428a2f98,0x71374491,0xb5c0fbcf,0xe9b5dba5,0x3956c25b,0x59f111f1,0x923f82a4,0xab1c5ed5,
  0xd807aa98,0x12835b01,0x243185be,0x550c7dc3,0x72be5d74,0x80deb1fe,0x9bdc06a7,0xc19bf174,
  0xe49b69c1,0xefbe4786,0x0fc19dc6,0x240ca1cc,0x2de92c6f,0x4a7484aa,0x5cb0a9dc,0x76f988da,
  0x983e5152,0xa831c66d,0xb00327c8,0xbf597fc7,0xc6e00bf3,0xd5a79147,0x06ca6351,0x14292967,
  0x27b70a85,0x2e1b2138,0x4d2c6dfc,0x53380d13,0x650a7354,0x766a0abb,0x81c2c92e,0x92722c85,
  0xa2bfe8a1,0xa81a664b,0xc24b8b70,0xc76c51a3,0xd192e819,0xd6990624,0xf40e3585,0x106aa070,
  0x19a4c116,0x1e376c08,0x2748774c,0x34b0bcb5,0x391c0cb3,0x4ed8aa4a,0x5b9cca4f,0x682e6ff3,
  0x748f82ee,0x78a5636f,0x84c87814,0x8cc70208,0x90befffa,0xa4506ceb,0xbef9a3f7,0xc67178f2]
def H0 : St:=⟨0x6a09e667,0xbb67ae85,0x3c6ef372,0xa54ff53a,0x510e527f,0x9b05688c,0x1f83d9ab,0x5be0cd19⟩
def rounds (w : List Nat) (s : St) : Nat→St
  | 0=>s
  | n + 1=>(rounds w s n).step (K.getD n 0) (w.getD n 0)
def mix (s : St) (c : List UInt8) : St:=s.add (rounds (sch c 64) s 64)
def blk (l : List UInt8) (i : Nat) : List UInt8:=(l.drop (64 * i)).take 64
def hash (l : List UInt8) : Nat→St
  | 0=>H0
  | n + 1=>mix (hash l n) (blk l n)
def zeros (n : Nat) : Nat:=(119 - n % 64) % 64
def lenB (n : Nat) : List UInt8:=[UInt8.ofNat (8 * n / 2 ^ 56),UInt8.ofNat (8 * n / 2 ^ 48),UInt8.ofNat (8 * n / 2 ^ 40),UInt8.ofNat (8 * n / 2 ^ 32),UInt8.ofNat (8 * n / 2 ^ 24),UInt8.ofNat (8 * n / 2 ^ 16),UInt8.ofNat (8 * n / 2 ^ 8),UInt8.ofNat (8 * n)]
def pad (l : List UInt8) : List UInt8:=l ++ (128 :: (List.replicate (zeros l.length) 0 ++ lenB l.length))
theorem pad_length (l : List UInt8) : (pad l).length = l.length + 9 + zeros l.length:=by simp [pad,lenB]; omega
theorem pad_mod (l : List UInt8) : (pad l).length % 64 = 0:=by rw [pad_length,zeros]; omega
def be (x : Nat) : List UInt8:=[UInt8.ofNat (x / 2 ^ 24),UInt8.ofNat (x / 2 ^ 16),UInt8.ofNat (x / 2 ^ 8),UInt8.ofNat x]
def St.bytes (s : St) : List UInt8:=be s.a ++ be s.b ++ be s.c ++ be s.d ++ be s.e ++ be s.f ++ be s.g ++ be s.h
def sum (l : List UInt8) : List UInt8:=(hash (pad l) ((pad l).length / 64)).bytes
theorem sum_length (l : List UInt8) : (sum l).length = 32:=rfl
theorem add32_lt (a b : Nat) : add32 a b < 4294967296:=Nat.mod_lt _ (by decide)
theorem rotr_lt {x : Nat} (n : Nat) (h : x < 4294967296) : rotr x n < 4294967296 :=
  Nat.or_lt_two_pow (n:=32) (Nat.lt_of_le_of_lt (Nat.div_le_self _ _) h) (Nat.mod_lt _ (by decide))
theorem be32_lt (a b c d : UInt8) : be32 a.toNat b.toNat c.toNat d.toNat < 4294967296:=by
  have:=a.toNat_lt; have:=b.toNat_lt; have:=c.toNat_lt; have:=d.toNat_lt
  simp only [be32]; omega
theorem word_lt (c : List UInt8) (p : List Nat) (i : Nat) : word c p i < 4294967296:=by
  unfold word
  split
  · exact be32_lt _ _ _ _
  · exact add32_lt _ _
theorem sch_lt (c : List UInt8) (n : Nat) : ∀ x ∈ sch c n,x < 4294967296:=by
  induction n with
  | zero=>intro x hx; simp [sch] at hx
  | succ n ih =>
    intro x hx
    simp only [sch,List.mem_append,List.mem_singleton] at hx
    rcases hx with hx | rfl
    · exact ih x hx
    · exact word_lt _ _ _
theorem sch_getD_lt (c : List UInt8) (n i : Nat) : (sch c n).getD i 0 < 4294967296:=by
  rw [List.getD_eq_getElem?_getD]
  cases h : (sch c n)[i]? with
  | none=>simp
  | some x=>exact sch_lt c n x (List.mem_of_getElem? h)
theorem H0_ok : H0.ok:=by constructor <;> decide
theorem St.ok.step {s : St} (h : s.ok) (k w : Nat) : (s.step k w).ok:=⟨add32_lt _ _,h.a,h.b,h.c,add32_lt _ _,h.e,h.f,h.g⟩
theorem St.ok.add (s t : St) : (s.add t).ok:=⟨add32_lt _ _,add32_lt _ _,add32_lt _ _,add32_lt _ _,add32_lt _ _,add32_lt _ _,add32_lt _ _,add32_lt _ _⟩
theorem rounds_ok {w : List Nat} {s : St} (h : s.ok) : ∀ n,(rounds w s n).ok
  | 0=>h
  | n + 1=>(rounds_ok h n).step _ _
theorem mix_ok (s : St) (c : List UInt8) : (mix s c).ok:=St.ok.add _ _
theorem hash_ok (l : List UInt8) : ∀ n,(hash l n).ok
  | 0=>H0_ok
  | n + 1=>mix_ok _ _
end Sha
end Go.AM
namespace Go.AM
namespace Mac
def key (k : List UInt8) : List UInt8:=if 64 < k.length then Sha.sum k else k
def fill (k : List UInt8) : List UInt8:=k ++ List.replicate (64 - k.length) 0
def turn (x : UInt8) (l : List UInt8) : List UInt8:=l.map fun c=>c ^^^ x
def inner (k l : List UInt8) : List UInt8:=Sha.sum (turn 54 (fill (key k)) ++ l)
def tag (k l : List UInt8) : List UInt8:=Sha.sum (turn 92 (fill (key k)) ++ inner k l)
theorem tag_len (k l : List UInt8) : (tag k l).length = 32:=Sha.sum_length _
def part (x : UInt8) (l : List UInt8) (i : Nat) : List UInt8:=turn x (l.take i) ++ l.drop i
end Mac
end Go.AM
namespace Go.AM
open Go
theorem right_small {n : NodeV} (h : n.right) : n.name.length≤16∧n.parent.length≤32∧n.unm.length≤32:=by
  unfold NodeV.right at h
  split at h
  · rw [h]; simp [NodeV.nought]
  · split at h
    · obtain ⟨h1,h2,h3,h4⟩:=h
      have:=h3.2.2
      omega
    · split at h
      · obtain ⟨h1,h3,h4⟩:=h
        have:=h3.2.2
        have:=rising_len h4
        omega
      · exact h.elim
end Go.AM
namespace Go.AM
open Go
theorem memI_iff {t : List NodeV} {L : Nat} (hL : lvs t = L) (i : Int) : memI t i↔0≤i∧i < (L : Int)∧(nd t (2 * i.toNat)).kind = 1:=by unfold memI; rw [hL]
theorem memN_iff {t : List NodeV} {L : Nat} (hL : lvs t = L) (i : Nat) : memI t (i : Int)↔i < L∧(nd t (2 * i)).kind = 1:=by
  rw [memI_iff hL,Int.toNat_natCast]
  exact ⟨fun h=>⟨by omega,h.2.2⟩,fun h=>⟨by omega,by omega,h.2⟩⟩
theorem rightT_iff {t : List NodeV} {L : Nat} (hL : Fit L) (hlen : t.length = 2 * L - 1) : rightT t ↔
    (∀ i,i < 2 * L - 1→(nd t i).right∧((nd t i).kind = 0∨((nd t i).kind = 1↔i % 2 = 0))∧∀ u ∈ (nd t i).unm,(lo i : Int)≤u∧u≤(hi i : Int)∧0≤u∧u < (L : Int)∧(nd t (2 * u.toNat)).kind = 1) ∧
    (∀ a b,a < b→b < L→(nd t (2 * a)).kind = 1→(nd t (2 * b)).kind = 1→(nd t (2 * b)).name≠(nd t (2 * a)).name) ∧
    (L = 1∨∃ j,L / 2≤j∧j < L∧(nd t (2 * j)).kind = 1):=by
  have hl:=lvs_of hL hlen
  have hb:=hL.le
  have hh : hlf t = L:=by unfold hlf; omega
  have hund : ∀ i,i < 2 * L - 1→undI (i : Int) = ((lo i : Int),(hi i : Int)):=by
    intro i hi'
    unfold undI
    rw [if_pos (by omega),Int.toNat_natCast]
  have hcnt : 0 < cntN (memI t) (L / 2) (L - L / 2)↔∃ j,L / 2≤j∧j < L∧(nd t (2 * j)).kind = 1:=by
    rw [cntN_pos]
    constructor
    · rintro ⟨j,h1,h2⟩
      have:=(memN_iff hl _).1 h2
      exact ⟨L / 2 + j,by omega,this.1,this.2⟩
    · rintro ⟨j,h1,h2,h3⟩
      refine ⟨j - L / 2,by omega,?_⟩
      rw [show L / 2 + (j - L / 2) = j by omega]
      exact (memN_iff hl _).2 ⟨h2,h3⟩
  unfold rightT
  rw [hl,hcnt]
  constructor
  · rintro ⟨_,h2,h3⟩
    refine ⟨fun i hi'=>?_,fun a b hab hbL ha hb'=>?_,h3⟩
    · obtain ⟨⟨k1,k2,k3⟩,_⟩:=h2 i (by omega)
      refine ⟨k1,k2,fun u hu=>?_⟩
      obtain ⟨q1,q2,q3⟩:=k3 u hu
      rw [hund i hi'] at q1 q2
      have:=(memI_iff hl u).1 q3
      exact ⟨q1,q2,this.1,this.2.1,this.2.2⟩
    · intro e
      have:=(h2 (2 * a) (by omega)).2 (by omega) (by rw [show 2 * a / 2 = a by omega]; exact (memN_iff hl a).2 ⟨by omega,ha⟩) b (by omega) (by omega)
      exact this ⟨(memN_iff hl b).2 ⟨hbL,hb'⟩,e⟩
  · rintro ⟨h1,h2,h3⟩
    refine ⟨by omega,fun i hi'=>⟨⟨?_,?_,?_⟩,?_⟩,h3⟩
    · exact (h1 i (by omega)).1
    · exact (h1 i (by omega)).2.1
    · intro u hu
      obtain ⟨q1,q2,q3,q4,q5⟩:=(h1 i (by omega)).2.2 u hu
      rw [hund i (by omega)]
      exact ⟨q1,q2,(memI_iff hl u).2 ⟨q3,q4,q5⟩⟩
    · intro he hm j hj hij ⟨hmj,hn⟩
      have h5:=(memN_iff hl _).1 hm
      have h6:=(memN_iff hl _).1 hmj
      rw [show 2 * (i / 2) = i by omega] at h5
      refine h2 (i / 2) j hij h6.1 (by rw [show 2 * (i / 2) = i by omega]; exact h5.2) h6.2 ?_
      rw [show 2 * (i / 2) = i by omega]
      exact hn
end Go.AM
namespace Go.AM
open Go Go.RowKit
variable {P : Program} {Γ : Nat→List AV} {s : AS}
theorem rowX_len (T : List (NodeV × AV)) : (rowC cellsX T).length = T.length * 5:=row_len cellsX_len T
theorem TreeO.osl {s0 s : AS} {X : AV} {T : List (NodeV × AV)} (h : TreeO s0 s X T) (h0 : T.length≠0) : ∃ O cap rest,X = .osl O 0 5 T.length cap∧s.objs O = some (rowC cellsX T ++ rest)∧rest.length = (cap - T.length) * 5∧T.length≤cap∧cap < 2 ^ 63:=by
  rcases h.row with ⟨h1,_⟩ | ⟨O,cap,rest,h1,h2,_,h4,h5,h6⟩
  · exact absurd h1 h0
  · exact ⟨O,cap,rest,h1,h2,h4,h5,h6⟩
def zN : List AV:=[.v (.int .i64 0),.v (.slice none 0 0),.v (.int .u64 0),.v (.slice none 0 0),.v (.slice none 0 0)]
def pN : NodeV × AV:=(NodeV.nought,nilS)
theorem zrow_zN : ∀ k : Nat,zrow (k * 5) zN = (List.replicate k zN).flatten
  | 0=>rfl
  | k + 1=>by
    have ih:=zrow_zN k
    unfold zrow at ih ⊢
    rw [Nat.succ_mul,List.range_add,List.map_append,ih,List.replicate_succ',List.flatten_append]
    congr 1
    have hl : zN.length = 5:=rfl
    have e : List.range 5 = [0,1,2,3,4]:=rfl
    rw [e]
    simp only [List.map_cons,List.map_nil,hl]
    rw [show (k * 5 + 0) % 5 = 0 by omega,show (k * 5 + 1) % 5 = 1 by omega,show (k * 5 + 2) % 5 = 2 by omega,show (k * 5 + 3) % 5 = 3 by omega,show (k * 5 + 4) % 5 = 4 by omega]
    rfl
theorem TreeO.grow {s0 s : AS} {X : AV} {T : List (NodeV × AV)} {ob cap : Nat} (h : TreeO s0 s X T) (hf : s.objs ob = none∨∃ cap0,X = .osl ob 0 5 T.length cap0) (h63 : cap < 2 ^ 63) :
    ∀ (k : Nat) (rest : List AV),T.length + (k + 1)≤cap→rest.length = (cap - (T.length + (k + 1))) * 5→TreeO s0 (s.set ob (rowC cellsX (T ++ List.replicate (k + 1) pN) ++ rest)) (.osl ob 0 5 (T.length + (k + 1)) cap) (T ++ List.replicate (k + 1) pN)
  | 0,rest,h1,h2=>by
    have:=h.push (p:=pN) (ob:=ob) (cap:=cap) (rest:=rest) (.inl ⟨rfl,rfl,.inl rfl⟩) (fun o ho=>by cases ho) hf h1 h63 h2
    have e : rowC cellsX (T ++ List.replicate (0 + 1) pN) = rowC cellsX T ++ cellsX pN:=row_snoc _ _
    rw [e]
    exact this
  | k + 1,rest,h1,h2=>by
    have ih:=TreeO.grow h hf h63 k (cellsX pN ++ rest) (by omega) (by
      rw [List.length_append,h2]
      show 5 + _ = _
      rw [show cap - (T.length + (k + 1)) = (cap - (T.length + (k + 1 + 1))) + 1 by omega,Nat.succ_mul]
      omega)
    have hl : (T ++ List.replicate (k + 1) pN).length = T.length + (k + 1):=by simp
    have:=ih.push (p:=pN) (ob:=ob) (cap:=cap) (rest:=rest) (.inl ⟨rfl,rfl,.inl rfl⟩) (fun o ho=>by cases ho) (.inr ⟨cap,by rw [hl]⟩) (by rw [hl]; omega) h63 (by rw [hl,h2]; congr 1)
    rw [AS.set_set,hl] at this
    have e : T ++ List.replicate (k + 1 + 1) pN = T ++ List.replicate (k + 1) pN ++ [pN]:=by rw [List.replicate_succ' (n:=k + 1),List.append_assoc]
    have e2 : rowC cellsX (T ++ List.replicate (k + 1) pN ++ [pN]) = rowC cellsX (T ++ List.replicate (k + 1) pN) ++ cellsX pN:=row_snoc _ _
    rw [e,e2]
    exact this
theorem AS.tells_set {Γ : Nat→List AV} {s : AS} {O : Nat} {a b : List AV} (w : AVs.weak a b) : AS.tells Γ (s.set O a) (s.set O b):=by
  have:=AS.tells_obj (Γ:=Γ) (AS.set_objs_same s O a) w
  rwa [AS.set_set] at this
theorem TreeO.cut {s0 s : AS} {O cap k : Nat} {T : List (NodeV × AV)} (h : TreeO s0 s (.osl O 0 5 T.length cap) T) (hk : k≤T.length) : TreeO s0 s (.osl O 0 5 k cap) (T.take k):=by
  have hkl : (T.take k).length = k:=by rw [List.length_take]; omega
  refine ⟨⟨fun p hp=>h.xs.buf p (List.mem_of_mem_take hp),fun p hp=>h.xs.new p (List.mem_of_mem_take hp),h.xs.sep.sublist (List.take_sublist _ _)⟩,h.le,?_,fun O' hO'=>h.newR O' hO',fun O' hO' p hp=>h.sepR O' hO' p (List.mem_of_mem_take hp)⟩
  rcases h.row with ⟨h0,h1,h2⟩ | ⟨O2,cap2,rest,e,h2,h3,h4,h5,h6⟩
  · rcases h2 with h2 | h2 | h2 <;> cases h2
  · injection e with e1 _ _ _ e5
    subst e1 e5
    have hs : rowC cellsX T = rowC cellsX (T.take k) ++ rowC cellsX (T.drop k):=by
      conv=>lhs; rw [← List.take_append_drop k T]
      simp only [rowC,List.map_append,List.flatten_append]
    refine .inr ⟨O,cap,rowC cellsX (T.drop k) ++ rest,by rw [hkl],by rw [h2,hs,List.append_assoc],rowX_len _,?_,by omega,h6⟩
    rw [List.length_append,rowX_len,List.length_drop,h4,hkl,← Nat.add_mul]
    congr 1
    omega
end Go.AM
