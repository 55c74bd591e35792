/- Contracts of the program's functions, each walked once; the conditions stand in each theorem. -/
import Derived.Test.YtfjlmkifiihgkaaGreatDoorAMp6
import Derived.Test.YtfjlmkifiihgkaaGreatDoorW1
import Derived.Test.YtfjlmkifiihgkaaGreatDoorAMp4
import Derived.Test.YtfjlmkifiihgkaaGreatDoorAMp3
import Derived.Test.YtfjlmkifiihgkaaGreatDoorAMp5
set_option linter.unusedSimpArgs false
set_option linter.unusedVariables false
open Nat renaming reduceLT → Na, reduceLeDiff → Nb, reduceEqDiff → Nc, reduceAdd → Nk, reduceMul → Nf, reducePow → Ng, reduceSub → Nh, reduceBEq → Nz
open Int renaming reduceLT → Za, reduceLE → Zb, reduceToNat → Zc
open And renaming intro → Ai
open Go.AM renaming ashift → Qa, aconv → Qb, aindexAddr → Qc, aindex → Qd, aslice → Qe, abuiltin → Qf, awp_reg_seq → wS, awp_reg_end → wE, awp_seq_k → wK, awp_cond_k → wC
open Go.AM.AV renaming cells → Qg, one → Qh
set_option maxRecDepth 100000
set_option maxHeartbeats 8000000
set_option autoImplicit false
namespace Go.Proofs.YtfjlmkifiihgkaaGreatDoor
open Go Go.AM Go.Proofs
variable {Γ : Nat→List AV}
theorem refLevel18_calls (x : Int) (s : AS) : ACalls Tryz.prog Γ 144 [.v (.int .i64 x)] s (fun r s'=>r = .v (.int .i64 (lvI x))∧s' = s):=by
 refine acalls_body Tryz.func144 rfl Tryz.ntmps144 Tryz.results144 (by simp) ?_
 refine jA ?_
 refine wK fun K hK=>?_
 by_cases h : 0≤x∧x < 63
 ·obtain ⟨n,rfl⟩:=Int.eq_ofNat_of_zero_le h.1
  have hn : n < 63:=by omega
  have h0 : decide ((n : Int) < 0) = false:=decide_eq_false (by omega)
  have h1 : decide ((62 : Int) < (n : Int)) = false:=decide_eq_false (by omega)
  refine jB (Ai @h0 @h1) ?_
  refine jF ?_
  refine awp_skip ?_
  refine hK _ _ ?_;clear hK K
  refine jA ?_
  refine wK fun K hK=>?_
  refine jA ?_
  refine awp_block ?_
  refine awp_loop (fun E s2=>∃ (k m : Nat),m < 63∧k + lv m = lv n∧E 3 = .v (.int .i64 k)∧E 4 = .v (.int .i64 m)∧s2 = s)
   (fun E _=>match E 4 with | .v (.int _ i)=>i.toNat | _=>0) ?_ ?_
  ·exact ⟨0,n,hn,by omega,by simp only [upd,Nc,↓reduceIte]; rfl,by simp only [upd,initE,List.getD_cons_zero,List.getD_cons_succ,Nc,↓reduceIte],rfl⟩
  ·rintro E1 s2 ⟨k,m,hm,hk,g3,g4,rfl⟩ -
   refine wK fun K2 hK2=>?_
   have hlv:=lv_half m hm
   have hr : irem (m : Int) 2 = ((m % 2 : Nat) : Int):=irem_u m 2
   have hq : iquo .i64 (m : Int) 2 = ((m / 2 : Nat) : Int):=iquo_nat m (by omega)
   by_cases hodd : m % 2 = 1
   ·have hl2:=hlv.1 hodd
    have hle:=lv_le n
    have hy : ((irem (m : Int) 2) == 1) = true:=by rw [hr]; exact yesI (by omega)
    refine jB (Ai @g4 @hy) ?_
    refine wC fun X Y hX hY=>?_
    simp only [↓DN,Qa,Qb,Qc,Qd,Qe,Qf,Qg,Qh,reduceCtorEq,↓reduceIte,Na,Nb,Nc,Nk,Nf,Ng,Nh,Za,Zb,Zc,TT,DB,hy]
    refine hX ?_;clear hX hY X Y
    refine awp_skip ?_
    refine hK2 _ _ ?_;clear hK2 K2
    refine wK fun K3 hK3=>?_
    refine awp_block ?_
    refine jD @g3 ?_
    simp only [blockQ,thenQ,if_true,if_false]
    refine hK3 _ _ ?_;clear hK3 K3
    refine jD (Ai @g4 (Ai @hq (eye_succ k (by omega)))) ?_
    refine ⟨⟨k + 1,m / 2,by omega,by omega,by simp only [upd,Nc,↓reduceIte],by simp only [upd,Nc,↓reduceIte],rfl⟩,?_⟩
    simp only [g4,upd,↓reduceIte]
    omega
   ·have hl2:=hlv.2 (by omega)
    have hy : ((irem (m : Int) 2) == 1) = false:=by rw [hr]; exact notI (by omega)
    refine jB (Ai @g4 @hy) ?_
    refine wC fun X Y hX hY=>?_
    simp only [↓DN,Qa,Qb,Qc,Qd,Qe,Qf,Qg,Qh,reduceCtorEq,↓reduceIte,Na,Nb,Nc,Nk,Nf,Ng,Nh,Za,Zb,Zc,TT,DB,hy]
    refine hY ?_;clear hX hY X Y
    refine awp_exit ?_
    simp only [thenQ,blockQ,if_true]
    refine hK _ _ ?_;clear hK hK2 K2 K
    refine jB @g3 ?_
    refine jI ?_
    exact ⟨_,_,AV.weak.refl _,AS.le.refl _,by rw [lvI_nat hn,show k = lv n by omega],rfl⟩
 ·rw [show lvI x = 0 from if_neg h]
  by_cases h0 : x < 0
  ·refine jB (decide_eq_true h0) ?_
   refine jE ?_
   refine jA ?_
   exact jJ
  ·have h1 : (62 : Int) < x:=by omega
   refine jB (Ai (decide_eq_false h0) (decide_eq_true h1)) ?_
   refine jE ?_
   refine jA ?_
   exact jJ
theorem refKids18_calls (x : Int) (hx : -9000000000000000000≤x∧x≤9000000000000000000) (s : AS) : ACalls Tryz.prog Γ 78 [.v (.int .i64 x)] s
  (fun r s'=>r = (match kidsI x with | some k=>.tup [.v (.int .i64 k.1),.v (.int .i64 k.2),.v (.bool true)] | none=>.tup [.v (.int .i64 0),.v (.int .i64 0),.v (.bool false)])∧s' = s):=by
 refine acalls_body Tryz.func78 rfl Tryz.ntmps78 Tryz.results78 (by simp) ?_
 have hl:=lvI_le x
 have hp:=pow_le5 hl
 refine jA ?_
 refine wK fun K hK=>?_
 refine jQ fun K hK=>?_
 refine acallk (refLevel18_calls x _) ?_
 rintro r s1 ⟨rfl,rfl⟩
 by_cases h : lvI x = 0
 ·refine jV (nat0 h) hK ?_;clear hK K
  refine jE ?_
  refine jA ?_
  refine jI ?_
  rw [show kidsI x = none from if_pos h]
  exact ⟨_,_,AV.weak.refl _,AS.le.refl _,rfl,rfl⟩
 ·refine jV (nat0F h) hK ?_;clear hK K
  refine jF ?_
  refine awp_skip ?_
  refine hK _ _ ?_;clear hK K
  refine jA ?_
  refine wK fun K hK=>?_
  refine jA ?_
  refine awp_block ?_
  refine awp_loop (fun E s2=>∃ (i : Nat),i < lvI x∧E 6 = .v (.int .i64 ((i + 1 : Nat) : Int))∧E 5 = .v (.int .i64 ((2 ^ i : Nat) : Int))∧E 0 = .v (.int .i64 x)∧s2 = s1)
   (fun E _=>match E 6 with | .v (.int _ i)=>7 - i.toNat | _=>0) ?_ ?_
  ·exact ⟨0,by omega,by simp only [upd,Nc,↓reduceIte]; rfl,by simp only [upd,Nc,↓reduceIte]; rfl,by simp only [upd,initE,List.getD_cons_zero,List.getD_cons_succ,Nc,↓reduceIte],rfl⟩
  ·rintro E1 s2 ⟨i,hi,g6,g5,g0,rfl⟩ -
   refine wK fun K2 hK2=>?_
   refine jS (Ai @g6 @g0) fun K hK=>?_
   refine acallk (refLevel18_calls x _) ?_
   rintro r s3 ⟨rfl,rfl⟩
   by_cases hi' : i + 1 < lvI x
   ·refine jV (Ai @eye_lt_nat (decide_eq_true hi')) hK ?_;clear hK K
    refine jE ?_
    refine awp_skip ?_
    refine hK2 _ _ ?_;clear hK2 K2
    refine wK fun K3 hK3=>?_
    refine awp_block ?_
    have hp2:=pow_le5 (show i≤5 by omega)
    have hm : imul .i64 ((2 ^ i : Nat) : Int) 2 = ((2 ^ (i + 1) : Nat) : Int):=by rw [imul_i64 (by omega),Nat.pow_succ]; omega
    refine jD (Ai @g5 @hm) ?_
    simp only [blockQ,thenQ,if_true,if_false]
    refine hK3 _ _ ?_;clear hK3 K3
    refine jD (Ai @g6 (eye_succ (i + 1) (by omega))) ?_
    refine ⟨⟨i + 1,hi',by simp only [upd,Nc,↓reduceIte],by simp only [upd,Nc,↓reduceIte],by simp only [upd,g0,Nc,↓reduceIte],rfl⟩,?_⟩
    simp only [g6,upd,↓reduceIte]
    omega
   ·refine jV (Ai @eye_lt_nat (decide_eq_false hi')) hK ?_;clear hK K
    refine jF ?_
    refine awp_exit ?_
    simp only [thenQ,blockQ,if_true]
    refine hK _ _ ?_;clear hK hK2 K2 K
    have he : 2 ^ i = 2 ^ lvI x / 2:=by
     rw [show lvI x = i + 1 by omega,Nat.pow_succ]; omega
    rw [he] at g5
    refine jB (Ai @g5 (Ai @g0 (Ai (isub_i64 (a:=x) (b:=((2 ^ lvI x / 2 : Nat) : Int)) (by omega)) (iadd_i64 (a:=x) (b:=((2 ^ lvI x / 2 : Nat) : Int)) (by omega))))) ?_
    refine jI ?_
    rw [show kidsI x = some (_,_) from if_neg h]
    exact ⟨_,_,AV.weak.refl _,AS.le.refl _,rfl,rfl⟩
end Go.Proofs.YtfjlmkifiihgkaaGreatDoor
namespace Go.Proofs.YtfjlmkifiihgkaaGreatDoor
open Go Go.AM Go.Proofs
variable {Γ : Nat→List AV}
theorem refUnder18_calls (x : Int) (s : AS) : ACalls Tryz.prog Γ 73 [.v (.int .i64 x)] s (fun r s'=>r = .tup [.v (.int .i64 (undI x).1),.v (.int .i64 (undI x).2)]∧s' = s):=by
 refine acalls_body Tryz.func73 rfl Tryz.ntmps73 Tryz.results73 (by simp) ?_
 refine jA ?_
 refine wK fun K hK=>?_
 by_cases h : 0≤x∧x < 63
 ·obtain ⟨n,rfl⟩:=Int.eq_ofNat_of_zero_le h.1
  have hn : n < 63:=by omega
  have h1 : decide ((62 : Int) < (n : Int)) = false:=decide_eq_false (by omega)
  have hund : undI (n : Int) = ((lo n : Int),(hi n : Int)):=if_pos h
  refine jB (Ai @negF @h1) ?_
  refine jF ?_
  refine awp_skip ?_
  refine hK _ _ ?_;clear hK K
  refine jA ?_
  refine wK fun K hK=>?_
  refine awp_block ?_
  refine awp_loop (fun E s2=>∃ (m : Nat),m < 63∧lo m = lo n∧E 4 = .v (.int .i64 m)∧E 5 = .v (.int .i64 n)∧s2 = s)
   (fun E _=>match E 4 with | .v (.int _ i)=>lvI i | _=>0) ?_ ?_
  ·exact ⟨n,hn,rfl,by simp only [upd,initE,List.getD_cons_zero,List.getD_cons_succ,Nc,↓reduceIte],by simp only [upd,initE,List.getD_cons_zero,List.getD_cons_succ,Nc,↓reduceIte],rfl⟩
  ·rintro E1 s2 ⟨m,hm,hlo,g4,g5,rfl⟩ -
   refine wK fun K2 hK2=>?_
   refine jS @g4 fun K hK=>?_
   refine acallk (refLevel18_calls m _) ?_
   rintro r s3 ⟨rfl,rfl⟩
   rw [lvI_nat hm]
   by_cases hz : lv m = 0
   ·refine jR hK ?_;clear hK K
    refine wC fun X Y hX hY=>?_
    simp only [↓DN,Qa,Qb,Qc,Qd,Qe,Qf,Qg,Qh,reduceCtorEq,↓reduceIte,Na,Nb,Nc,Nk,Nf,Ng,Nh,Za,Zb,Zc,TT,DB,eq_false (show ¬ (0 : Int) < ((lv m : Nat) : Int) by omega),not_false_eq_true]
    refine hY ?_;clear hX hY X Y
    refine awp_exit ?_
    simp only [thenQ,blockQ,if_true]
    refine hK _ _ ?_;clear hK hK2 K2 K
    have hL:=(lo_leaf m hm hz).1
    refine wK fun K hK=>?_
    refine awp_block ?_
    refine awp_loop (fun E s4=>∃ (m' : Nat),m' < 63∧hi m' = hi n∧E 5 = .v (.int .i64 m')∧E 4 = .v (.int .i64 m)∧s4 = s3)
     (fun E _=>match E 5 with | .v (.int _ i)=>lvI i | _=>0) ?_ ?_
    ·exact ⟨n,hn,rfl,by simp only [upd,g5,Nc,↓reduceIte],by simp only [upd,g4,Nc,↓reduceIte],rfl⟩
    ·clear g4 g5
     rintro E2 s4 ⟨m',hm',hhi,g5,g4,rfl⟩ -
     refine wK fun K2 hK2=>?_
     refine jS @g5 fun K hK=>?_
     refine acallk (refLevel18_calls m' _) ?_
     rintro r s5 ⟨rfl,rfl⟩
     rw [lvI_nat hm']
     by_cases hz' : lv m' = 0
     ·refine jR hK ?_;clear hK K
      refine wC fun X Y hX hY=>?_
      simp only [↓DN,Qa,Qb,Qc,Qd,Qe,Qf,Qg,Qh,reduceCtorEq,↓reduceIte,Na,Nb,Nc,Nk,Nf,Ng,Nh,Za,Zb,Zc,TT,DB,eq_false (show ¬ (0 : Int) < ((lv m' : Nat) : Int) by omega),not_false_eq_true]
      refine hY ?_;clear hX hY X Y
      refine awp_exit ?_
      simp only [thenQ,blockQ,if_true]
      refine hK _ _ ?_;clear hK hK2 K2 K
      have hH:=(lo_leaf m' hm' hz').2
      refine jB (Ai @g4 (Ai @g5 (Ai (iquo_nat m (by omega)) (iquo_nat m' (by omega))))) ?_
      refine jI ?_
      rw [← hL,← hH,hlo,hhi,hund]
      exact ⟨_,_,AV.weak.refl _,AS.le.refl _,rfl,rfl⟩
     ·obtain ⟨w1,w2,w3⟩:=hi_step m' hm' hz'
      refine jR hK ?_;clear hK K
      refine wC fun X Y hX hY=>?_
      simp only [↓DN,Qa,Qb,Qc,Qd,Qe,Qf,Qg,Qh,reduceCtorEq,↓reduceIte,Na,Nb,Nc,Nk,Nf,Ng,Nh,Za,Zb,Zc,TT,DB,eq_true (show (0 : Int) < ((lv m' : Nat) : Int) by omega),not_true_eq_false]
      refine hX ?_;clear hX hY X Y
      refine awp_skip ?_
      refine hK2 _ _ ?_;clear hK2 K2
      refine awp_block ?_
      have hkid : kidsI (m' : Int) = some (((m' : Int) - (hf m' : Int)),((m' + hf m' : Nat) : Int)):=by
       unfold kidsI
       rw [lvI_nat hm',if_neg hz']
       unfold hf
       congr 2
      refine jU @g5 fun K hK=>?_
      refine acallk (refKids18_calls m' (by omega) _) ?_
      rintro r s6 ⟨rfl,rfl⟩
      rw [hkid]
      simp only [↓DM,pval,DX,Nz,↓DN,Qa,Qb,Qc,Qd,Qe,Qf,Qg,Qh,reduceCtorEq,↓reduceIte,Na,Nb,Nc,Nk,Nf,Ng,Nh,Za,Zb,Zc,TT]
      refine hK _ _ ⟨⟨m' + hf m',w3,by rw [w1,hhi],by simp only [upd,Nc,↓reduceIte],by simp only [upd,g4,Nc,↓reduceIte],rfl⟩,?_⟩
      simp only [g5,upd,↓reduceIte]
      rw [lvI_nat hm',lvI_nat w3]
      omega
   ·obtain ⟨w1,w2,w3,w4⟩:=lo_step m hm hz
    refine jR hK ?_;clear hK K
    refine wC fun X Y hX hY=>?_
    simp only [↓DN,Qa,Qb,Qc,Qd,Qe,Qf,Qg,Qh,reduceCtorEq,↓reduceIte,Na,Nb,Nc,Nk,Nf,Ng,Nh,Za,Zb,Zc,TT,DB,eq_true (show (0 : Int) < ((lv m : Nat) : Int) by omega),not_true_eq_false]
    refine hX ?_;clear hX hY X Y
    refine awp_skip ?_
    refine hK2 _ _ ?_;clear hK2 K2
    refine awp_block ?_
    have hkid : kidsI (m : Int) = some (((m - hf m : Nat) : Int),((m : Int) + (hf m : Int))):=by
     unfold kidsI
     rw [lvI_nat hm,if_neg hz]
     unfold hf at w4 ⊢
     congr 2
     omega
    refine jU @g4 fun K hK=>?_
    refine acallk (refKids18_calls m (by omega) _) ?_
    rintro r s6 ⟨rfl,rfl⟩
    rw [hkid]
    simp only [↓DM,pval,DX,Nz,↓DN,Qa,Qb,Qc,Qd,Qe,Qf,Qg,Qh,reduceCtorEq,↓reduceIte,Na,Nb,Nc,Nk,Nf,Ng,Nh,Za,Zb,Zc,TT]
    refine hK _ _ ⟨⟨m - hf m,w3,by rw [w1,hlo],by simp only [upd,Nc,↓reduceIte],by simp only [upd,g5,Nc,↓reduceIte],rfl⟩,?_⟩
    simp only [g4,upd,↓reduceIte]
    rw [lvI_nat hm,lvI_nat w3]
    omega
 ·have hund : undI x = (0,-1):=if_neg h
  by_cases h0 : x < 0
  ·refine jB (decide_eq_true h0) ?_
   refine jE ?_
   refine jA ?_
   refine jI ?_
   rw [hund]
   exact ⟨_,_,AV.weak.refl _,AS.le.refl _,rfl,rfl⟩
  ·have h1 : (62 : Int) < x:=by omega
   refine jB (Ai (decide_eq_false h0) (decide_eq_true h1)) ?_
   refine jE ?_
   refine jA ?_
   refine jI ?_
   rw [hund]
   exact ⟨_,_,AV.weak.refl _,AS.le.refl _,rfl,rfl⟩
end Go.Proofs.YtfjlmkifiihgkaaGreatDoor
namespace Go.Proofs.YtfjlmkifiihgkaaGreatDoor
open Go Go.AM Go.Proofs
variable {Γ : Nat→List AV}
theorem clone_calls (l : List UInt8) (sp : Sp) (ha : sp.isAny = false) (s : AS) (hl : l.length≤2 ^ 45) : ACalls Tryz.prog Γ 184 [bytesV l sp] s (fun r s'=>r = bytesV l .any∧s' = s):=by
 refine acalls_body Tryz.func184 rfl Tryz.ntmps184 Tryz.results184 (by simp) ?_
 unfold bytesV
 refine jA ?_
 refine wK fun K hK=>?_
 refine jB (Ai @ha @and_false) ?_
 refine jF ?_
 refine awp_skip ?_
 refine hK _ _ ?_;clear hK K
 by_cases h0 : l.length = 0
 ·have hl0 : l = []:=List.eq_nil_of_length_eq_zero h0
  subst hl0
  refine jA ?_
  refine awp_ret ?_
  simp only [↓DN,Qa,Qb,Qc,Qd,Qe,Qf,Qg,Qh,reduceCtorEq,↓reduceIte,Na,Nb,Nc,Nk,Nf,Ng,Nh,Za,Zb,Zc,TT,retQ,AEnds,aresL,ares,atuple]
  exact ⟨_,s,AV.weak_any,AS.le.refl s,rfl,rfl⟩
 ·refine jS @h0 fun K hK=>?_
  refine ⟨by omega,by omega,fun t ht=>hK _ _ ?_⟩
  clear hK K
  refine awp_ret ?_
  simp only [↓DN,Qa,Qb,Qc,Qd,Qe,Qf,Qg,Qh,reduceCtorEq,↓reduceIte,Na,Nb,Nc,Nk,Nf,Ng,Nh,Za,Zb,Zc,TT,retQ,AEnds,aresL,ares,atuple]
  exact ⟨_,s,AV.weak_any,AS.le_gain (AS.le.refl s) ht 0,rfl,rfl⟩
theorem number_calls (s0 s : AS) (p : Nat) (l : List UInt8) (n size : Nat) (hn : n < 2 ^ 64) (hs : size≤8) (hl : l.length + 8≤2 ^ 45) (h : Pen s0 s p l false) :
  ACalls Tryz.prog Γ 195 [.ptr p 0,.v (.int .u64 n),.v (.int .i64 size)] s (fun r s'=>r = .tup []∧Pen s0 s' p (l ++ be size n) false):=by
 refine acalls_body Tryz.func195 rfl Tryz.ntmps195 Tryz.results195 (by simp) ?_
 refine jA ?_
 refine awp_block ?_
 refine awp_loop (fun E s1=>∃ (i : Int) (l' : List UInt8),E 6 = .v (.int .i64 i)∧-1≤i∧i < size∧E 0 = .ptr p 0∧E 1 = .v (.int .u64 n)∧Pen s0 s1 p l' false∧l' ++ be (i + 1).toNat n = l ++ be size n)
  (fun E _=>match E 6 with | .v (.int _ i)=>(i + 1).toNat | _=>0) ?_ ?_
 ·refine ⟨size - 1,l,?_,by omega,by omega,by simp [upd,initE],by simp [upd,initE],h,by congr 2; omega⟩
  simp [upd,isub_i64 (show -9223372036854775808≤(size : Int) - 1∧(size : Int) - 1≤9223372036854775807 by omega)]
 ·rintro E1 s1 ⟨i,l',h6,hi1,hi2,h0,h1,hp,hl'⟩ -
  obtain ⟨x,hx,hb⟩:=hp.obj
  refine wK fun K hK=>?_
  by_cases hi : 0≤i
  ·refine jB (Ai @h6 (Ai @h0 (Ai @h1 (Ai @hx (decide_eq_true hi))))) ?_
   refine jE ?_
   refine awp_skip ?_
   refine hK _ _ ?_;clear hK K
   refine wK fun K hK=>?_
   refine awp_block ?_
   have hmul : imul .i64 8 i = 8 * i:=imul_i64 (by omega)
   have hnn : ¬ (8 * i < 0):=by omega
   obtain ⟨j,rfl⟩:=Int.eq_ofNat_of_zero_le hi
   have hj : j < 8:=by omega
   have hstep:=be_step n j hj
   have hbe : be ((j : Int) + 1).toNat n = UInt8.ofNat (n / 2 ^ (8 * j)) :: be j n:=by
    rw [show ((j : Int) + 1).toNat = j + 1 from by omega]; rfl
   have hlen : l'.length≤l.length + size:=by
    have:=congrArg List.length hl'
    simp at this
    omega
   have hsub : isub .i64 (j : Int) 1 = (j : Int) - 1:=isub_i64 (by omega)
   have hend : ∀ (E2 : Env) (s2 : AS),E2 6 = .v (.int .i64 j)→E2 0 = .ptr p 0→E2 1 = .v (.int .u64 n)→Pen s0 s2 p (l' ++ [UInt8.ofNat (n / 2 ^ (8 * j))]) false→K E2 s2:=by
    intro E2 s2 e6 e0 e1 hp2
    refine hK _ _ ?_;clear hK K
    refine jD (Ai @e6 @hsub) ?_
    refine ⟨⟨(j : Int) - 1,_,by simp only [upd,↓reduceIte],by omega,by omega,by simp only [upd,e0,Nc,↓reduceIte],by simp only [upd,e1,Nc,↓reduceIte],hp2,?_⟩,?_⟩
    ·rw [← hl',hbe]
     simp
    ·simp only [h6,upd,↓reduceIte]
     omega
   clear hK
   rcases hb with ⟨rfl,hl0⟩ | ⟨t,e,rfl,ht,ht0⟩
   ·subst hl0
    refine awp_drw_end T.mixed [4,11,14] (by kernel_rfl) ?_
    intro K hK
    simp only [↓DM,pval,DX,Nz,↓DN,Qa,Qb,Qc,Qd,Qe,Qf,Qg,Qh,reduceCtorEq,↓reduceIte,Na,Nb,Nc,Nk,Nf,Ng,Nh,Za,Zb,Zc,TT,h6,h0,h1,hx,nilS,hmul,hnn,List.replicate_succ]
    intro t ht
    refine hK _ _ (hend _ _ (by simp only [upd,h6,Nc,↓reduceIte]) (by simp only [upd,h0,Nc,↓reduceIte]) (by simp only [upd,h1,Nc,↓reduceIte]) ?_)
    rw [hstep]
    exact hp.one ht _
   ·refine awp_drw_end T.mixed [4,11,14] (by kernel_rfl) ?_
    intro K hK
    simp only [↓DM,pval,DX,Nz,↓DN,Qa,Qb,Qc,Qd,Qe,Qf,Qg,Qh,reduceCtorEq,↓reduceIte,Na,Nb,Nc,Nk,Nf,Ng,Nh,Za,Zb,Zc,TT,h6,h0,h1,hx,bytesV,hmul,hnn,ht,List.replicate_succ]
    refine ⟨by omega,by omega,hK _ _ (hend _ _ (by simp only [upd,h6,Nc,↓reduceIte]) (by simp only [upd,h0,Nc,↓reduceIte]) (by simp only [upd,h1,Nc,↓reduceIte]) ?_)⟩
    rw [hstep]
    exact hp.more ht0 [_] rfl rfl
  ·have hi0 : i = -1:=by omega
   subst hi0
   refine jB (Ai @h6 (Ai @h0 (Ai @h1 @hx))) ?_
   refine jF ?_
   refine awp_exit ?_
   simp only [thenQ,blockQ,if_true,retQ,AEnds,aresL,atuple,List.toList_toArray]
   refine ⟨_,s1,AV.weak.refl _,AS.le.refl _,rfl,?_⟩
   have : l' = l ++ be size n:=by simpa [be] using hl'
   rw [← this]
   exact hp
end Go.Proofs.YtfjlmkifiihgkaaGreatDoor
namespace Go.Proofs.YtfjlmkifiihgkaaGreatDoor
open Go Go.AM Go.Proofs
variable {Γ : Nat→List AV}
theorem number_bad (s0 s : AS) (p : Nat) (l : List UInt8) (n size : Int) (hs : 0≤size∧size≤8) (h : Pen s0 s p l true) :
  ACalls Tryz.prog Γ 195 [.ptr p 0,.v (.int .u64 n),.v (.int .i64 size)] s (fun r s'=>r = .tup []∧Pen s0 s' p l true):=by
 refine acalls_body Tryz.func195 rfl Tryz.ntmps195 Tryz.results195 (by simp) ?_
 obtain ⟨x,hx,hb⟩:=h.obj
 have hsub : isub .i64 size 1 = size - 1:=isub_i64 (by omega)
 refine jB @hsub ?_
 refine awp_block ?_
 refine awp_loop (fun E s1=>E 6 = .v (.int .i64 (size - 1))∧E 0 = .ptr p 0∧s1 = s) (fun _ _=>0) ?_ ?_
 ·exact ⟨by simp [upd],by simp [upd,initE],rfl⟩
 ·rintro E1 s1 ⟨h6,h0,rfl⟩ -
  refine wK fun K hK=>?_
  by_cases hi : 0≤size - 1
  ·refine jB (Ai @h6 (Ai @h0 (Ai @hx (decide_eq_true hi)))) ?_
   refine jF ?_
   refine awp_exit ?_
   simp only [thenQ,blockQ,if_true,retQ,AEnds,aresL,atuple,List.toList_toArray]
   exact ⟨_,s1,AV.weak.refl _,AS.le.refl _,rfl,h⟩
  ·refine jB (Ai @h6 (Ai @h0 (Ai @hx (decide_eq_false hi)))) ?_
   refine jF ?_
   refine awp_exit ?_
   simp only [thenQ,blockQ,if_true,retQ,AEnds,aresL,atuple,List.toList_toArray]
   exact ⟨_,s1,AV.weak.refl _,AS.le.refl _,rfl,h⟩
theorem number_any (s0 s : AS) (p : Nat) (st : List UInt8 × Bool) (n size : Nat) (hn : n < 2 ^ 64) (hs : size≤8) (hl : st.1.length + 8≤2 ^ 45) (h : PenS s0 s p st) :
  ACalls Tryz.prog Γ 195 [.ptr p 0,.v (.int .u64 n),.v (.int .i64 size)] s (fun r s'=>r = .tup []∧PenS s0 s' p (penNum size n st)):=by
 obtain ⟨l,b⟩:=st
 cases b
 ·exact number_calls s0 s p l n size hn hs hl h
 ·exact number_bad s0 s p l n size (by omega) h
theorem new_calls (s : AS) : ACalls Tryz.prog Γ 109 [] s (fun r s'=>∃ p,r = .ptr p 0∧PenS s s' p ([],false)):=by
 refine acalls_body Tryz.func109 rfl Tryz.ntmps109 Tryz.results109 (by simp) ?_
 refine jA ?_
 refine wS fun K hK=>?_
 simp only [↓DN,Qa,Qb,Qc,Qd,Qe,Qf,Qg,Qh,reduceCtorEq,↓reduceIte,Na,Nb,Nc,Nk,Nf,Ng,Nh,Za,Zb,Zc,TT,Array.toList_empty]
 intro p hp
 refine hK _ _ ?_
 refine awp_ret ?_
 simp only [↓DN,Qa,Qb,Qc,Qd,Qe,Qf,Qg,Qh,reduceCtorEq,↓reduceIte,Na,Nb,Nc,Nk,Nf,Ng,Nh,Za,Zb,Zc,TT,retQ,AEnds,aresL,ares,atuple]
 exact ⟨_,_,AV.weak.refl _,AS.le.refl _,p,rfl,AS.le_set (AS.le.refl s) hp _,hp,_,AS.set_objs_same _ _ _,.inl ⟨rfl,rfl⟩⟩
theorem small_calls (s0 s : AS) (p : Nat) (st : List UInt8 × Bool) (n : Int) (size : Nat) (hn : -9223372036854775808≤n∧n≤9223372036854775807) (hs : size≤8) (hl : st.1.length + 8≤2 ^ 45) (h : PenS s0 s p st) :
  ACalls Tryz.prog Γ 229 [.ptr p 0,.v (.int .i64 n),.v (.int .i64 size)] s (fun r s'=>r = .tup []∧PenS s0 s' p (penSmall size n st)):=by
 refine acalls_body Tryz.func229 rfl Tryz.ntmps229 Tryz.results229 (by simp) ?_
 obtain ⟨x,hx,hb⟩:=h.obj
 refine wK fun K hK=>?_
 have hmul : imul .i64 8 (size : Int) = 8 * size:=imul_i64 (by omega)
 have hnn : ¬ (8 * (size : Int) < 0):=by omega
 by_cases h0 : n < 0
 ·refine jB (decide_eq_true h0) ?_
  refine jE ?_
  refine jB @hx ?_
  refine awp_ret ?_
  simp only [thenQ,retQ,AEnds,aresL,atuple,List.toList_toArray]
  refine ⟨_,_,AV.weak.refl _,AS.le.refl _,rfl,?_⟩
  have : penSmall size n st = (st.1,true):=by unfold penSmall; rw [if_neg (by omega)]
  rw [this]
  exact h.bad hx hb true
 ·by_cases h1 : 2 ^ (8 * size)≤n
  ·refine jB (Ai (decide_eq_false h0) (Ai @hmul (Ai @hnn (Ai (shr_small n size (by omega) (by omega)) (decide_eq_true h1))))) ?_
   refine jE ?_
   refine jB @hx ?_
   refine awp_ret ?_
   simp only [thenQ,retQ,AEnds,aresL,atuple,List.toList_toArray]
   refine ⟨_,_,AV.weak.refl _,AS.le.refl _,rfl,?_⟩
   have : penSmall size n st = (st.1,true):=by unfold penSmall; rw [if_neg (by omega)]
   rw [this]
   exact h.bad hx hb true
  ·refine jB (Ai (decide_eq_false h0) (Ai @hmul (Ai @hnn (Ai (shr_small n size (by omega) (by omega)) (decide_eq_false h1))))) ?_
   refine jF ?_
   refine awp_skip ?_
   refine hK _ _ ?_;clear hK K
   obtain ⟨m,rfl⟩:=Int.eq_ofNat_of_zero_le (Int.not_lt.1 h0)
   have hconv : iconv .u64 (m : Int) = m:=iconv_u64_nat m (by omega)
   refine jU @hconv fun K hK=>?_
   refine acallk (number_any s0 s p st m size (by omega) hs hl h) ?_
   rintro r s' ⟨rfl,hp⟩
   refine jR hK ?_;clear hK K
   simp only [retQ,AEnds,aresL,atuple,List.toList_toArray]
   refine ⟨_,_,AV.weak.refl _,AS.le.refl _,rfl,?_⟩
   have : penSmall size m st = penNum size m st:=by unfold penSmall; rw [if_pos (by omega)]; rfl
   rw [this]
   exact hp
end Go.Proofs.YtfjlmkifiihgkaaGreatDoor
namespace Go.Proofs.YtfjlmkifiihgkaaGreatDoor
open Go Go.AM Go.Proofs
variable {Γ : Nat→List AV}
theorem penU8_calls (s0 s : AS) (p : Nat) (st : List UInt8 × Bool) (n : Int) (hn : -9223372036854775808≤n∧n≤9223372036854775807) (hl : st.1.length + 8≤2 ^ 45) (h : PenS s0 s p st) :
  ACalls Tryz.prog Γ 168 [.ptr p 0,.v (.int .i64 n)] s (fun r s'=>r = .tup []∧PenS s0 s' p (penSmall 1 n st)):=by
 refine acalls_body Tryz.func168 rfl Tryz.ntmps168 Tryz.results168 (by simp) ?_
 refine jT fun K hK=>?_
 refine acallk (small_calls s0 s p st n 1 hn (by omega) hl h) ?_
 rintro r s' ⟨rfl,hp⟩
 refine jR hK ?_;clear hK K
 simp only [retQ,AEnds,aresL,ares,List.toList_toArray,↓upd_same]; try simp only [UP,DF,Nc,↓reduceIte,DT]
 exact ⟨_,_,AV.weak.refl _,AS.le.refl _,rfl,hp⟩
theorem penU32_calls (s0 s : AS) (p : Nat) (st : List UInt8 × Bool) (n : Int) (hn : -9223372036854775808≤n∧n≤9223372036854775807) (hl : st.1.length + 8≤2 ^ 45) (h : PenS s0 s p st) :
  ACalls Tryz.prog Γ 215 [.ptr p 0,.v (.int .i64 n)] s (fun r s'=>r = .tup []∧PenS s0 s' p (penSmall 4 n st)):=by
 refine acalls_body Tryz.func215 rfl Tryz.ntmps215 Tryz.results215 (by simp) ?_
 refine jT fun K hK=>?_
 refine acallk (small_calls s0 s p st n 4 hn (by omega) hl h) ?_
 rintro r s' ⟨rfl,hp⟩
 refine jR hK ?_;clear hK K
 simp only [retQ,AEnds,aresL,ares,List.toList_toArray,↓upd_same]; try simp only [UP,DF,Nc,↓reduceIte,DT]
 exact ⟨_,_,AV.weak.refl _,AS.le.refl _,rfl,hp⟩
theorem penU64_calls (s0 s : AS) (p : Nat) (st : List UInt8 × Bool) (n : Nat) (hn : n < 2 ^ 64) (hl : st.1.length + 8≤2 ^ 45) (h : PenS s0 s p st) :
  ACalls Tryz.prog Γ 111 [.ptr p 0,.v (.int .u64 n)] s (fun r s'=>r = .tup []∧PenS s0 s' p (penNum 8 n st)):=by
 refine acalls_body Tryz.func111 rfl Tryz.ntmps111 Tryz.results111 (by simp) ?_
 refine jT fun K hK=>?_
 refine acallk (number_any s0 s p st n 8 hn (by omega) hl h) ?_
 rintro r s' ⟨rfl,hp⟩
 refine jR hK ?_;clear hK K
 simp only [retQ,AEnds,aresL,ares,List.toList_toArray,↓upd_same]; try simp only [UP,DF,Nc,↓reduceIte,DT]
 exact ⟨_,_,AV.weak.refl _,AS.le.refl _,rfl,hp⟩
theorem penRaw_calls (s0 s : AS) (p : Nat) (st : List UInt8 × Bool) (b : AV) (m : List UInt8) (hb : IsB b m) (hl : st.1.length + m.length≤2 ^ 45) (h : PenS s0 s p st) :
  ACalls Tryz.prog Γ 241 [.ptr p 0,b] s (fun r s'=>r = .tup []∧PenS s0 s' p (penRaw m st)):=by
 obtain ⟨l,bad⟩:=st
 obtain ⟨x,hx,hbuf⟩:=h.obj
 refine acalls_body Tryz.func241 rfl Tryz.ntmps241 Tryz.results241 (by simp) ?_
 cases bad
 ·refine jB @hx ?_
  refine jE ?_
  have hraw : penRaw m (l,false) = (l ++ m,false):=rfl
  by_cases hm : m.length = 0
  ·have hm0 : m = []:=List.eq_nil_of_length_eq_zero hm
   subst hm0
   have e : (l ++ [],false) = (l,false):=by simp
   rw [hraw,e]
   rcases hbuf with ⟨rfl,hl0⟩ | ⟨t,e,rfl,ht,ht0⟩
   ·simp only at hl0
    subst hl0
    rcases hb with ⟨rfl,_⟩ | ⟨sp,rfl⟩
    ·refine wE fun K hK=>?_
     simp only [↓DN,Qa,Qb,Qc,Qd,Qe,Qf,Qg,Qh,reduceCtorEq,↓reduceIte,Na,Nb,Nc,Nk,Nf,Ng,Nh,Za,Zb,Zc,TT,hx,nilS,bytesV,hm]
     refine hK _ _ ?_;clear hK K
     simp only [retQ,AEnds,aresL,ares,List.toList_toArray,↓upd_same]; try simp only [UP,DF,Nc,↓reduceIte,DT]
     exact ⟨_,_,AV.weak.refl _,AS.le.refl _,rfl,h.bad hx (.inl ⟨rfl,rfl⟩) false⟩
    ·refine wE fun K hK=>?_
     simp only [↓DN,Qa,Qb,Qc,Qd,Qe,Qf,Qg,Qh,reduceCtorEq,↓reduceIte,Na,Nb,Nc,Nk,Nf,Ng,Nh,Za,Zb,Zc,TT,hx,nilS,bytesV,hm]
     refine hK _ _ ?_;clear hK K
     simp only [retQ,AEnds,aresL,ares,List.toList_toArray,↓upd_same]; try simp only [UP,DF,Nc,↓reduceIte,DT]
     exact ⟨_,_,AV.weak.refl _,AS.le.refl _,rfl,h.bad hx (.inl ⟨rfl,rfl⟩) false⟩
   ·rcases hb with ⟨rfl,_⟩ | ⟨sp,rfl⟩
    ·refine wE fun K hK=>?_
     simp only [↓DN,Qa,Qb,Qc,Qd,Qe,Qf,Qg,Qh,reduceCtorEq,↓reduceIte,Na,Nb,Nc,Nk,Nf,Ng,Nh,Za,Zb,Zc,TT,hx,nilS,bytesV,hm]
     refine hK _ _ ?_;clear hK K
     simp only [retQ,AEnds,aresL,ares,List.toList_toArray,↓upd_same]; try simp only [UP,DF,Nc,↓reduceIte,DT]
     exact ⟨_,_,AV.weak.refl _,AS.le.refl _,rfl,h.bad hx (.inr ⟨t,e,rfl,ht,ht0⟩) false⟩
    ·refine wE fun K hK=>?_
     simp only [↓DN,Qa,Qb,Qc,Qd,Qe,Qf,Qg,Qh,reduceCtorEq,↓reduceIte,Na,Nb,Nc,Nk,Nf,Ng,Nh,Za,Zb,Zc,TT,hx,nilS,bytesV,hm]
     refine hK _ _ ?_;clear hK K
     simp only [retQ,AEnds,aresL,ares,List.toList_toArray,↓upd_same]; try simp only [UP,DF,Nc,↓reduceIte,DT]
     exact ⟨_,_,AV.weak.refl _,AS.le.refl _,rfl,h.bad hx (.inr ⟨t,e,rfl,ht,ht0⟩) false⟩
  ·have hb' : ∃ sp,b = bytesV m sp:=by
    rcases hb with ⟨_,rfl⟩ | hb
    ·exact absurd rfl hm
    ·exact hb
   obtain ⟨sp,rfl⟩:=hb'
   rw [hraw]
   simp only at hl
   rcases hbuf with ⟨rfl,hl0⟩ | ⟨t,e,rfl,ht,ht0⟩
   ·simp only at hl0
    subst hl0
    refine wE fun K hK=>?_
    simp only [↓DN,Qa,Qb,Qc,Qd,Qe,Qf,Qg,Qh,reduceCtorEq,↓reduceIte,Na,Nb,Nc,Nk,Nf,Ng,Nh,Za,Zb,Zc,TT,hx,nilS,bytesV,hm]
    refine ⟨by omega,by omega,fun t ht=>hK _ _ ?_⟩
    clear hK K
    simp only [retQ,AEnds,aresL,ares,List.toList_toArray,↓upd_same]; try simp only [UP,DF,Nc,↓reduceIte,DT]
    exact ⟨_,_,AV.weak.refl _,AS.le.refl _,rfl,h.put_one ht m⟩
   ·refine jU (Ai @hx (Ai @bytesV.eq_1 (Ai @hm @ht))) fun K hK=>?_
    refine ⟨by omega,by omega,hK _ _ ?_⟩
    clear hK K
    simp only [retQ,AEnds,aresL,ares,List.toList_toArray,↓upd_same]; try simp only [UP,DF,Nc,↓reduceIte,DT]
    exact ⟨_,_,AV.weak.refl _,AS.le.refl _,rfl,h.more ht0 m rfl rfl⟩
 ·refine jB @hx ?_
  refine jF ?_
  refine awp_skip ?_
  simp only [retQ,AEnds,aresL,ares,List.toList_toArray,↓upd_same]; try simp only [UP,DF,Nc,↓reduceIte,DT]
  exact ⟨_,_,AV.weak.refl _,AS.le.refl _,rfl,h⟩
theorem penText_calls (s0 s : AS) (p : Nat) (st : List UInt8 × Bool) (b : AV) (m : List UInt8) (k : Nat) (hk : k≤8) (hb : IsB b m) (hl : st.1.length + m.length + 8≤2 ^ 45) (h : PenS s0 s p st) :
  ACalls Tryz.prog Γ 194 [.ptr p 0,b,.v (.int .i64 k)] s (fun r s'=>r = .tup []∧PenS s0 s' p (penText k m st)):=by
 refine acalls_body Tryz.func194 rfl Tryz.ntmps194 Tryz.results194 (by simp) ?_
 have hlen : (penSmall k m.length st).1.length≤st.1.length + k:=penSmall_len ..
 rcases hb with ⟨rfl,rfl⟩ | ⟨sp,rfl⟩
 ·refine wS fun K hK=>?_
  simp only [↓DN,Qa,Qb,Qc,Qd,Qe,Qf,Qg,Qh,reduceCtorEq,↓reduceIte,Na,Nb,Nc,Nk,Nf,Ng,Nh,Za,Zb,Zc,TT,nilS,List.length_nil]
  refine acallk (small_calls s0 s p st 0 k (by omega) hk (by omega) h) ?_
  rintro r s' ⟨rfl,hp⟩
  refine jR hK ?_;clear hK K
  refine jT fun K hK=>?_
  refine acallk (penRaw_calls s0 s' p _ nilS [] IsB.nil (by have:=penSmall_len k 0 st; simp at this hl ⊢; omega) hp) ?_
  rintro r s'' ⟨rfl,hp'⟩
  refine jR hK ?_;clear hK K
  simp only [retQ,AEnds,aresL,ares,List.toList_toArray,↓upd_same]; try simp only [UP,DF,Nc,↓reduceIte,DT]
  exact ⟨_,_,AV.weak.refl _,AS.le.refl _,rfl,hp'⟩
 ·refine jS @bytesV.eq_1 fun K hK=>?_
  refine acallk (small_calls s0 s p st m.length k (by omega) hk (by omega) h) ?_
  rintro r s' ⟨rfl,hp⟩
  refine jR hK ?_;clear hK K
  refine jT fun K hK=>?_
  refine acallk (penRaw_calls s0 s' p _ (bytesV m sp) m (IsB.mk m sp) (by simp only [List.length_nil] at *; omega) hp) ?_
  rintro r s'' ⟨rfl,hp'⟩
  refine jR hK ?_;clear hK K
  simp only [retQ,AEnds,aresL,ares,List.toList_toArray,↓upd_same]; try simp only [UP,DF,Nc,↓reduceIte,DT]
  exact ⟨_,_,AV.weak.refl _,AS.le.refl _,rfl,hp'⟩
theorem penShort_calls (s0 s : AS) (p : Nat) (st : List UInt8 × Bool) (b : AV) (m : List UInt8) (hb : IsB b m) (hl : st.1.length + m.length + 8≤2 ^ 45) (h : PenS s0 s p st) :
  ACalls Tryz.prog Γ 110 [.ptr p 0,b] s (fun r s'=>r = .tup []∧PenS s0 s' p (penText 1 m st)):=by
 refine acalls_body Tryz.func110 rfl Tryz.ntmps110 Tryz.results110 (by simp) ?_
 refine jT fun K hK=>?_
 refine acallk (penText_calls s0 s p st b m 1 (by omega) hb hl h) ?_
 rintro r s' ⟨rfl,hp⟩
 refine jR hK ?_;clear hK K
 simp only [retQ,AEnds,aresL,ares,List.toList_toArray,↓upd_same]; try simp only [UP,DF,Nc,↓reduceIte,DT]
 exact ⟨_,_,AV.weak.refl _,AS.le.refl _,rfl,hp⟩
theorem clone_nil (s : AS) : ACalls Tryz.prog Γ 184 [nilS] s (fun r s'=>r = bytesV [] .any∧s' = s):=by
 refine acalls_body Tryz.func184 rfl Tryz.ntmps184 Tryz.results184 (by simp) ?_
 unfold nilS
 refine jA ?_
 refine wK fun K hK=>?_
 refine jA ?_
 refine jE ?_
 refine jA ?_
 refine jI ?_
 exact ⟨_,_,AV.weak_nil,AS.le.refl _,rfl,rfl⟩
theorem cloneB_calls (l : List UInt8) (s : AS) (hl : l.length≤2 ^ 45) : ACalls Tryz.prog Γ 184 [bytesV l .any] s (fun r s'=>r = bytesV l .any∧s' = s) :=
 ACalls.any (pre:=[]) (post:=[]) (fun e=>by subst e; exact clone_nil s) (clone_calls l .no rfl s hl)
theorem penBytes_calls (s0 s : AS) (p : Nat) (st : List UInt8 × Bool) (hl : st.1.length≤2 ^ 45) (h : PenS s0 s p st) :
  ACalls Tryz.prog Γ 113 [.ptr p 0] s (fun r s'=>r = .tup [bytesV (if st.2 = true then [] else st.1) .any,.v (.bool !st.2)]∧s' = s):=by
 obtain ⟨l,bad⟩:=st
 obtain ⟨x,hx,hbuf⟩:=h.obj
 refine acalls_body Tryz.func113 rfl Tryz.ntmps113 Tryz.results113 (by simp) ?_
 simp only at hx hl hbuf
 refine jA ?_
 refine wK fun K hK=>?_
 cases bad
 ·refine jB @hx ?_
  refine jF ?_
  refine awp_skip ?_
  refine hK _ _ ?_;clear hK K
  rcases hbuf with ⟨rfl,hl0⟩ | ⟨t,e,rfl,ht,ht0⟩
  ·subst hl0
   refine jS @hx fun K hK=>?_
   refine acallk (clone_nil s) ?_
   rintro r s' ⟨rfl,rfl⟩
   refine jR hK ?_;clear hK K
   exact jJ
  ·refine jS @hx fun K hK=>?_
   refine acallk (clone_calls l _ rfl s hl) ?_
   rintro r s' ⟨rfl,rfl⟩
   refine jR hK ?_;clear hK K
   exact jJ
 ·refine jB @hx ?_
  refine jE ?_
  refine jA ?_
  refine jI ?_
  exact ⟨_,_,AV.weak_tup2 AV.weak_nil (AV.weak.refl _),AS.le.refl _,rfl,rfl⟩
end Go.Proofs.YtfjlmkifiihgkaaGreatDoor
namespace Go.Proofs.YtfjlmkifiihgkaaGreatDoor
open Go Go.AM Go.Proofs
variable {Γ : Nat→List AV}
theorem open_calls (l : List UInt8) (s : AS) (hl : l.length≤2 ^ 45) : ACalls Tryz.prog Γ 100 [bytesV l .any] s (fun r s'=>∃ p,r = .ptr p 0∧EyeS s s' p (l,0)):=by
 refine acalls_body Tryz.func100 rfl Tryz.ntmps100 Tryz.results100 (by simp) ?_
 refine jA ?_
 refine jQ fun K hK=>?_
 refine acallk (cloneB_calls l s hl) ?_
 rintro r s' ⟨rfl,rfl⟩
 unfold bytesV
 simp only [↓DM,pval,DX,Nz,↓DN,Qa,Qb,Qc,Qd,Qe,Qf,Qg,Qh,reduceCtorEq,↓reduceIte,Na,Nb,Nc,Nk,Nf,Ng,Nh,Za,Zb,Zc,TT]
 intro p hp
 refine hK _ _ ?_
 refine jI ?_
 exact ⟨_,_,AV.weak.refl _,AS.le.refl _,p,rfl,AS.le_set (AS.le.refl _) hp _,hp,AS.set_objs_same _ _ _⟩
theorem next_calls (s0 s : AS) (p : Nat) (st : EyeSt) (n : Int) (h : EyeS s0 s p st) :
  ACalls Tryz.prog Γ 240 [.ptr p 0,.v (.int .i64 n)] s (fun r s'=>r = bytesV (eyeNext n st).1 .any∧EyeS s0 s' p (eyeNext n st).2):=by
 refine acalls_body Tryz.func240 rfl Tryz.ntmps240 Tryz.results240 (by simp) ?_
 obtain ⟨l,er⟩:=st
 have hx:=h.obj
 simp only [bytesV] at hx
 refine jA ?_
 refine wK fun K hK=>?_
 refine awp_block ?_
 by_cases h0 : er = 0
 ·subst h0
  refine jB (Ai @hx (i64_ne_false 0 rfl)) ?_
  refine jF ?_
  by_cases h1 : n < 0
  ·refine jB (decide_eq_true h1) ?_
   refine jE ?_
   refine jB @hx ?_
   refine jA ?_
   refine jI ?_
   rw [eyeNext_neg h1]
   exact ⟨_,_,AV.weak_nil,AS.le.refl _,rfl,h.put⟩
  ·refine jB (decide_eq_false h1) ?_
   refine jF ?_
   by_cases h2 : (l.length : Int) < n
   ·refine jB (Ai @hx (decide_eq_true h2)) ?_
    refine jE ?_
    refine jB @hx ?_
    refine jA ?_
    refine jI ?_
    rw [eyeNext_short h1 h2]
    exact ⟨_,_,AV.weak_nil,AS.le.refl _,rfl,h.put⟩
   ·obtain ⟨m,rfl⟩:=Int.eq_ofNat_of_zero_le (Int.not_lt.1 h1)
    have hml : m≤l.length:=by omega
    have hm0 : (0 : Int)≤(m : Int):=by omega
    have hml' : (m : Int)≤(l.length : Int):=by omega
    refine jB (Ai @hx (decide_eq_false h2)) ?_
    refine jF ?_
    refine awp_skip ?_
    simp only [thenQ,blockQ,if_true,if_false]
    refine hK _ _ ?_;clear hK K
    refine jB (Ai @hx (Ai @hm0 (Ai @hml' @Int.le_refl))) ?_
    refine jB (Ai @hx (Ai @hm0 (Ai @hml' @Int.le_refl))) ?_
    refine jA ?_
    refine jI ?_
    rw [eyeNext_ok hml]
    refine ⟨_,_,AV.weak.refl _,AS.le.refl _,bytes_of ?_ rfl,h.put' ?_⟩
    ·simp only [List.length_take]; omega
    ·rw [bytes_of (m:=l.drop m)]
     ·simp only [List.length_drop]
     ·rw [List.take_length]
 ·refine jB (Ai @hx (i64_ne_true er h0)) ?_
  refine jE ?_
  refine jA ?_
  refine jI ?_
  rw [eyeNext_err h0]
  exact ⟨_,_,AV.weak_nil,AS.le.refl _,rfl,h⟩
end Go.Proofs.YtfjlmkifiihgkaaGreatDoor
namespace Go.Proofs.YtfjlmkifiihgkaaGreatDoor
open Go Go.AM Go.Proofs
variable {Γ : Nat→List AV}
theorem eyeNumber_calls (s0 s : AS) (p : Nat) (st : EyeSt) (size : Nat) (hs : size≤8) (h : EyeS s0 s p st) :
  ACalls Tryz.prog Γ 186 [.ptr p 0,.v (.int .i64 size)] s (fun r s'=>r = .v (.int .u64 (eyeNum size st).1)∧EyeS s0 s' p (eyeNum size st).2):=by
 refine acalls_body Tryz.func186 rfl Tryz.ntmps186 Tryz.results186 (by simp) ?_
 obtain ⟨out,hout⟩ : ∃ out,out = (eyeNext size st).1:=⟨_,rfl⟩
 have hlen : out.length≤8:=by rw [hout]; exact Nat.le_trans (eyeNext_le _ _) hs
 refine jA ?_
 refine jA ?_
 refine wK fun K hK=>?_
 refine jQ fun K hK=>?_
 refine acallk (next_calls s0 s p st size h) ?_
 rintro r s2 ⟨rfl,he⟩
 rw [← hout]
 unfold bytesV
 refine jR hK ?_;clear hK K
 refine awp_block ?_
 refine awp_loop (fun E s3=>∃ j y : Nat,j≤out.length∧E 10 = .sl 1 out.length (out.map byteV) .any∧E 11 = .v (.int .i64 out.length)∧E 12 = .v (.int .i64 j)∧E 5 = .v (.int .u64 y)∧y = beNat (out.take j)∧s3 = s2)
  (fun E _=>match E 12 with | .v (.int _ j)=>out.length - j.toNat | _=>0) ?_ ?_
 ·exact ⟨0,0,Nat.zero_le _,by simp only [upd,Nc,↓reduceIte],by simp only [upd,Nc,↓reduceIte],by simp only [upd,↓reduceIte]; rfl,by simp only [upd,Nc,↓reduceIte]; rfl,rfl,rfl⟩
 ·rintro E3 s3 ⟨j,y,hj,f10,f11,f12,f5,hy,rfl⟩ -
  by_cases hj' : j < out.length
  ·have hy7 : y < 2 ^ 56:=by
    rw [hy]
    refine Nat.lt_of_lt_of_le (beNat_take_lt out j) ?_
    rw [show (2 : Nat) ^ 56 = 256 ^ 7 from by decide]
    exact Nat.pow_le_pow_right (by decide) (by omega)
   have hy2 : beNat (out.take (j + 1)) = y * 256 + out[j].toNat:=by rw [List.take_succ_eq_append_getElem hj',beNat_snoc,← hy]
   have hgj : (0 : Int)≤(j : Int):=by omega
   have hat:=eat_byte hj'
   generalize hcc : out[j] = c at *
   refine jB (Ai @f11 (Ai @f12 (Ai @eye_lt_nat (decide_eq_true hj')))) ?_
   refine wK fun K5 hK5=>?_
   refine jE ?_
   refine awp_skip ?_
   refine hK5 _ _ ?_;clear hK5 K5
   refine wK fun K6 hK6=>?_
   refine awp_block ?_
   refine wS fun K hK=>?_
   simp only [↓DN,Qa,Qb,Qc,Qd,Qe,Qf,Qg,Qh,reduceCtorEq,↓reduceIte,Na,Nb,Nc,Nk,Nf,Ng,Nh,Za,Zb,Zc,TT,f10,f12,eye_lt_nat,hj',hgj,hat,byteV]
   refine hK _ _ ?_;clear hK K
   refine jD (Ai @f5 (beNat_step y c hy7)) ?_
   simp only [blockQ,thenQ,if_true,if_false]
   refine hK6 _ _ ?_;clear hK6 K6
   refine jD (Ai @f12 (eye_succ j (by omega))) ?_
   refine ⟨⟨j + 1,y * 256 + c.toNat,by omega,by simp only [upd,f10,Nc,↓reduceIte],by simp only [upd,f11,Nc,↓reduceIte],by simp only [upd,↓reduceIte],by simp only [upd,Nc,↓reduceIte],hy2.symm,rfl⟩,?_⟩
   simp only [f12,upd,↓reduceIte]
   omega
  ·refine jB (Ai @f11 (Ai @f12 (Ai @eye_lt_nat (decide_eq_false hj')))) ?_
   refine wK fun K5 hK5=>?_
   refine jF ?_
   refine awp_exit ?_
   simp only [thenQ,blockQ,if_true]
   refine hK _ _ ?_;clear hK hK5 K K5
   refine jB @f5 ?_
   refine jI ?_
   refine ⟨_,_,AV.weak.refl _,AS.le.refl _,?_,he⟩
   rw [hy,List.take_of_length_le (by omega),hout]
   rfl
end Go.Proofs.YtfjlmkifiihgkaaGreatDoor
namespace Go.Proofs.YtfjlmkifiihgkaaGreatDoor
open Go Go.AM Go.Proofs
variable {Γ : Nat→List AV}
theorem eyeRaw_calls (s0 s : AS) (p : Nat) (st : EyeSt) (n : Int) (hl : st.1.length≤2 ^ 45) (h : EyeS s0 s p st) :
  ACalls Tryz.prog Γ 239 [.ptr p 0,.v (.int .i64 n)] s (fun r s'=>r = bytesV (eyeNext n st).1 .any∧EyeS s0 s' p (eyeNext n st).2):=by
 refine acalls_body Tryz.func239 rfl Tryz.ntmps239 Tryz.results239 (by simp) ?_
 refine jA ?_
 refine jQ fun K hK=>?_
 refine acallk (next_calls s0 s p st n h) ?_
 rintro r s' ⟨rfl,he⟩
 simp only [↓DM,pval,DX,Nz,↓DN,Qa,Qb,Qc,Qd,Qe,Qf,Qg,Qh,reduceCtorEq,↓reduceIte,Na,Nb,Nc,Nk,Nf,Ng,Nh,Za,Zb,Zc,TT]
 refine acallk (cloneB_calls _ s' (by have:=(eyeNext_len n st).1; omega)) ?_
 rintro r' s'' ⟨rfl,rfl⟩
 refine jR hK ?_;clear hK K
 refine jI ?_
 exact ⟨_,_,AV.weak.refl _,AS.le.refl _,rfl,he⟩
theorem eyeU_conv (k : Nat) (hk : k≤7) (st : EyeSt) : iconv .i64 ((eyeNum k st).1 : Int) = ((eyeNum k st).1 : Int):=by
 have:=eyeNum_lt k st
 have h2 : 256 ^ k≤256 ^ 7:=Nat.pow_le_pow_right (by decide) hk
 have h3 : (256 : Nat) ^ 7 = 72057594037927936:=by decide
 exact iconv_i64 (by omega)
theorem eyeU8_calls (s0 s : AS) (p : Nat) (st : EyeSt) (h : EyeS s0 s p st) :
  ACalls Tryz.prog Γ 187 [.ptr p 0] s (fun r s'=>r = .v (.int .i64 (eyeNum 1 st).1)∧EyeS s0 s' p (eyeNum 1 st).2):=by
 refine acalls_body Tryz.func187 rfl Tryz.ntmps187 Tryz.results187 (by simp) ?_
 refine jA ?_
 refine jQ fun K hK=>?_
 refine acallk (eyeNumber_calls s0 s p st 1 (by omega) h) ?_
 rintro r s' ⟨rfl,he⟩
 refine jV (eyeU_conv 1 (by omega) st) hK ?_;clear hK K
 refine jI ?_
 exact ⟨_,_,AV.weak.refl _,AS.le.refl _,rfl,he⟩
theorem eyeU64_calls (s0 s : AS) (p : Nat) (st : EyeSt) (h : EyeS s0 s p st) :
  ACalls Tryz.prog Γ 102 [.ptr p 0] s (fun r s'=>r = .v (.int .u64 (eyeNum 8 st).1)∧EyeS s0 s' p (eyeNum 8 st).2):=by
 refine acalls_body Tryz.func102 rfl Tryz.ntmps102 Tryz.results102 (by simp) ?_
 refine jA ?_
 refine jQ fun K hK=>?_
 refine acallk (eyeNumber_calls s0 s p st 8 (by omega) h) ?_
 rintro r s' ⟨rfl,he⟩
 refine jR hK ?_;clear hK K
 refine jI ?_
 exact ⟨_,_,AV.weak.refl _,AS.le.refl _,rfl,he⟩
theorem eyeText_calls (s0 s : AS) (p : Nat) (st : EyeSt) (k : Nat) (most : Int) (hk : k≤7) (hl : st.1.length≤2 ^ 45) (h : EyeS s0 s p st) :
  ACalls Tryz.prog Γ 185 [.ptr p 0,.v (.int .i64 k),.v (.int .i64 most)] s (fun r s'=>r = bytesV (eyeText k most st).1 .any∧EyeS s0 s' p (eyeText k most st).2):=by
 refine acalls_body Tryz.func185 rfl Tryz.ntmps185 Tryz.results185 (by simp) ?_
 have hx:=h.obj
 simp only [bytesV] at hx
 refine jA ?_
 refine jB @hx ?_
 refine jQ fun K hK=>?_
 refine acallk (eyeNumber_calls s0 s p st k (by omega) h) ?_
 rintro r s' ⟨rfl,he⟩
 refine jV (eyeU_conv k hk st) hK ?_;clear hK K
 have hlen:=eyeNum_len k st
 obtain ⟨q,hq⟩ : ∃ q,eyeNum k st = q:=⟨_,rfl⟩
 rw [hq] at he hlen
 rw [hq]
 obtain ⟨num,l',er⟩:=q
 have hx':=he.obj
 simp only [bytesV] at hx' hlen
 refine wK fun K hK=>?_
 refine awp_block ?_
 by_cases h0 : er = 0
 ·subst h0
  refine jB (Ai @hx' (i64_ne_false 0 rfl)) ?_
  refine jF ?_
  by_cases h1 : most < (num : Int)
  ·refine jB (decide_eq_true h1) ?_
   refine jE ?_
   refine jB @hx' ?_
   refine jA ?_
   refine jI ?_
   have e : eyeText k most st = ([],st.1,11):=by unfold eyeText; rw [hq]; exact (if_pos rfl).trans (if_pos h1)
   rw [e]
   exact ⟨_,_,AV.weak_nil,AS.le.refl _,rfl,he.put⟩
  ·refine jB (decide_eq_false h1) ?_
   refine jF ?_
   by_cases h2 : l'.length < num
   ·refine jB (Ai @hx' (Ai @eye_lt_nat (decide_eq_true h2))) ?_
    refine jE ?_
    refine jB @hx' ?_
    refine jA ?_
    refine jI ?_
    have e : eyeText k most st = ([],st.1,10):=by unfold eyeText; rw [hq]; exact (if_pos rfl).trans ((if_neg h1).trans (if_pos h2))
    rw [e]
    exact ⟨_,_,AV.weak_nil,AS.le.refl _,rfl,he.put⟩
   ·have e : eyeText k most st = eyeNext num (l',0):=by unfold eyeText; rw [hq]; exact (if_pos rfl).trans ((if_neg h1).trans (if_neg h2))
    refine jB (Ai @hx' (Ai @eye_lt_nat (decide_eq_false h2))) ?_
    refine jF ?_
    refine awp_skip ?_
    simp only [thenQ,blockQ,if_true,if_false]
    refine hK _ _ ?_;clear hK K
    refine jQ fun K hK=>?_
    refine acallk (eyeRaw_calls s0 s' p (l',0) num (by simp only; omega) he) ?_
    rintro r s'' ⟨rfl,he'⟩
    refine jR hK ?_;clear hK K
    refine jI ?_
    rw [e]
    exact ⟨_,_,AV.weak.refl _,AS.le.refl _,rfl,he'⟩
 ·refine jB (Ai @hx' (i64_ne_true er h0)) ?_
  refine jE ?_
  refine jA ?_
  refine jI ?_
  have e : eyeText k most st = ([],l',er):=by unfold eyeText; rw [hq]; exact if_neg h0
  rw [e]
  exact ⟨_,_,AV.weak_nil,AS.le.refl _,rfl,he⟩
theorem eyeShort_calls (s0 s : AS) (p : Nat) (st : EyeSt) (most : Int) (hl : st.1.length≤2 ^ 45) (h : EyeS s0 s p st) :
  ACalls Tryz.prog Γ 101 [.ptr p 0,.v (.int .i64 most)] s (fun r s'=>r = bytesV (eyeText 1 most st).1 .any∧EyeS s0 s' p (eyeText 1 most st).2):=by
 refine acalls_body Tryz.func101 rfl Tryz.ntmps101 Tryz.results101 (by simp) ?_
 refine jA ?_
 refine jQ fun K hK=>?_
 refine acallk (eyeText_calls s0 s p st 1 most (by omega) hl h) ?_
 rintro r s' ⟨rfl,he⟩
 refine jR hK ?_;clear hK K
 refine jI ?_
 exact ⟨_,_,AV.weak.refl _,AS.le.refl _,rfl,he⟩
theorem eyeErr_calls (s0 s : AS) (p : Nat) (st : EyeSt) (h : EyeS s0 s p st) :
  ACalls Tryz.prog Γ 190 [.ptr p 0] s (fun r s'=>r = .v (.int .i64 st.2)∧s' = s):=by
 refine acalls_body Tryz.func190 rfl Tryz.ntmps190 Tryz.results190 (by simp) ?_
 have hx:=h.obj
 refine jA ?_
 refine jB @hx ?_
 exact jJ
theorem eyeFail_calls (s0 s : AS) (p : Nat) (st : EyeSt) (e : Int) (h : EyeS s0 s p st) :
  ACalls Tryz.prog Γ 188 [.ptr p 0,.v (.int .i64 e)] s (fun r s'=>r = .tup []∧EyeS s0 s' p (st.1,if st.2 = 0 then e else st.2)):=by
 refine acalls_body Tryz.func188 rfl Tryz.ntmps188 Tryz.results188 (by simp) ?_
 have hx:=h.obj
 obtain ⟨l,er⟩:=st
 simp only at hx ⊢
 by_cases h0 : er = 0
 ·refine jB (Ai @hx (i64_eq_true er h0)) ?_
  refine jE ?_
  refine jD @hx ?_
  simp only [retQ,AEnds,aresL,ares,List.toList_toArray,↓upd_same]; try simp only [UP,DF,Nc,↓reduceIte,DT]
  rw [if_pos h0]
  exact ⟨_,_,AV.weak.refl _,AS.le.refl _,rfl,h.put⟩
 ·refine jB (Ai @hx (i64_eq_false er h0)) ?_
  refine jF ?_
  refine awp_skip ?_
  simp only [retQ,AEnds,aresL,ares,List.toList_toArray,↓upd_same]; try simp only [UP,DF,Nc,↓reduceIte,DT]
  rw [if_neg h0]
  exact ⟨_,_,AV.weak.refl _,AS.le.refl _,rfl,h⟩
theorem eyeEnd_calls (s0 s : AS) (p : Nat) (st : EyeSt) (h : EyeS s0 s p st) :
  ACalls Tryz.prog Γ 104 [.ptr p 0] s (fun r s'=>r = .v (.int .i64 (eyeEnd st))∧s' = s):=by
 refine acalls_body Tryz.func104 rfl Tryz.ntmps104 Tryz.results104 (by simp) ?_
 have hx:=h.obj
 obtain ⟨l,er⟩:=st
 simp only [bytesV] at hx
 refine jA ?_
 refine wK fun K hK=>?_
 have hgo : ∀ E1 : Env,E1 0 = .ptr p 0→eyeEnd (l,er) = er→K E1 s:=by
  intro E1 e0 e
  refine hK _ _ ?_;clear hK K
  refine jB (Ai @e0 @hx) ?_
  refine jI ?_
  exact ⟨_,_,AV.weak.refl _,AS.le.refl _,by rw [e],rfl⟩
 clear hK
 by_cases h0 : er = 0
 ·by_cases h1 : 0 < l.length
  ·refine jB (Ai @hx (Ai (i64_eq_true er h0) (decide_eq_true (show (0 : Int) < (l.length : Int) by omega)))) ?_
   refine jE ?_
   refine jA ?_
   refine jI ?_
   exact ⟨_,_,AV.weak.refl _,AS.le.refl _,by simp [eyeEnd,h0,h1,atuple],rfl⟩
  ·refine jB (Ai @hx (Ai (i64_eq_true er h0) (decide_eq_false (show ¬ (0 : Int) < (l.length : Int) by omega)))) ?_
   refine jF ?_
   refine awp_skip ?_
   exact hgo _ (by simp only [upd,initE,List.getD_cons_zero,Nc,↓reduceIte]) (by simp [eyeEnd,h1])
 ·refine jB (Ai @hx (i64_eq_false er h0)) ?_
  refine jF ?_
  refine awp_skip ?_
  exact hgo _ (by simp only [upd,initE,List.getD_cons_zero,Nc,↓reduceIte]) (by simp [eyeEnd,h0])
end Go.Proofs.YtfjlmkifiihgkaaGreatDoor
namespace Go.Proofs.YtfjlmkifiihgkaaGreatDoor
open Go Go.AM Go.Proofs
variable {Γ : Nat→List AV}
theorem n256 : ((256 : Int) = 0) = False:=by simp
theorem num_byte (q : Nat) : iconv .u8 (irem (q : Int) 256) = ((UInt8.ofNat q).toNat : Int):=by
 rw [show (256 : Int) = ((256 : Nat) : Int) from rfl,irem_u,iconv_u rfl]
 simp [IntKind.bits]
theorem num_quo (n i : Nat) (h : n < 2 ^ 64) : iquo .u64 ((n / 256 ^ i : Nat) : Int) 256 = ((n / 256 ^ (i + 1) : Nat) : Int):=by
 have hq : n / 256 ^ i < 2 ^ IntKind.u64.bits:=Nat.lt_of_le_of_lt (Nat.div_le_self _ _) h
 have:=iquo_u (k:=.u64) rfl (n / 256 ^ i) 256 hq
 rw [show (256 : Int) = ((256 : Nat) : Int) from rfl,this,Nat.div_div_eq_div_mul,Nat.pow_succ]
theorem byte_one (c : UInt8) : toBytes [AV.v (.int .u8 (c.toNat : Int))] = ByteArray.mk [c].toArray:=toBytes_map [c]
theorem byte_is (c : UInt8) : isByte (AV.v (.int .u8 (c.toNat : Int))) = true:=rfl
theorem refNumber_calls (n size : Nat) (hn : n < 2 ^ 64) (hs : size≤8) (s : AS) :
  ACalls Tryz.prog Γ 150 [.v (.int .u64 n),.v (.int .i64 size)] s (fun r s'=>r = .v (.string ⟨(be size n).toArray⟩)∧s' = s):=by
 refine acalls_body Tryz.func150 rfl Tryz.ntmps150 Tryz.results150 (by simp) ?_
 refine jA ?_
 refine jA ?_
 refine wK fun K hK=>?_
 refine jA ?_
 refine awp_block ?_
 refine awp_loop (fun E s1=>∃ i : Nat,i≤size∧E 6 = .v (.int .i64 i)∧E 1 = .v (.int .i64 size)∧E 0 = .v (.int .u64 (n / 256 ^ i : Nat))∧E 5 = .v (.string ⟨(be i n).toArray⟩)∧s1 = s)
  (fun E _=>match E 6 with | .v (.int _ i)=>size - i.toNat | _=>0) ?_ ?_
 ·exact ⟨0,Nat.zero_le _,by simp [upd],by simp [upd,initE],by simp [upd,initE],by simp [upd,be],rfl⟩
 ·rintro E1 s1 ⟨i,hi,h6,h1,h0,h5,rfl⟩ -
  refine wK fun K2 hK2=>?_
  by_cases hi' : i < size
  ·refine jB (Ai @h6 (Ai @h1 (Ai @eye_lt_nat (decide_eq_true hi')))) ?_
   refine jE ?_
   refine awp_skip ?_
   refine hK2 _ _ ?_;clear hK2 K2
   refine wK fun K3 hK3=>?_
   refine awp_block ?_
   refine wS fun K hK=>?_
   simp only [↓DN,Qa,Qb,Qc,Qd,Qe,Qf,Qg,Qh,reduceCtorEq,↓reduceIte,Na,Nb,Nc,Nk,Nf,Ng,Nh,Za,Zb,Zc,TT,h0,h5,n256,num_byte,byte_one,byte_is,List.replicate_succ,bs_size,bs_append,length_be,i64_room (show 1 + i < 2 ^ 62 by omega)]
   refine hK _ _ ?_;clear hK K
   refine jD (Ai @h0 (Ai @n256 (num_quo n i hn))) ?_
   simp only [blockQ,thenQ,if_true,if_false]
   refine hK3 _ _ ?_;clear hK3 K3
   refine jD (Ai @h6 (eye_succ i (by omega))) ?_
   refine ⟨⟨i + 1,by omega,by simp only [upd,↓reduceIte],by simp only [upd,h1,Nc,↓reduceIte],by simp only [upd,Nc,↓reduceIte],?_,rfl⟩,?_⟩
   ·simp only [upd,Nc,↓reduceIte,be,show 2 ^ (8 * i) = 256 ^ i from by rw [Nat.pow_mul]]
   ·simp only [h6,upd,↓reduceIte]
    omega
  ·refine jB (Ai @h6 (Ai @h1 (Ai @eye_lt_nat (decide_eq_false hi')))) ?_
   refine jF ?_
   refine awp_exit ?_
   simp only [thenQ,blockQ,if_true]
   refine hK _ _ ?_;clear hK hK2 K K2
   refine jB @h5 ?_
   refine jI ?_
   obtain rfl : i = size:=by omega
   exact ⟨_,_,AV.weak.refl _,AS.le.refl _,rfl,rfl⟩
theorem u64_len (n : Nat) (h : n < 2 ^ 63) : iconv .u64 (n : Int) = n:=iconv_u64_nat n (by omega)
theorem refText_calls (l : List UInt8) (size : Nat) (hl : l.length < 2 ^ 61) (hs : size≤8) (s : AS) :
  ACalls Tryz.prog Γ 119 [.v (.string ⟨l.toArray⟩),.v (.int .i64 size)] s (fun r s'=>r = .v (.string ⟨(be size l.length ++ l).toArray⟩)∧s' = s):=by
 refine acalls_body Tryz.func119 rfl Tryz.ntmps119 Tryz.results119 (by simp) ?_
 refine jA ?_
 refine jS (Ai @bs_size (u64_len l.length (by omega))) fun K hK=>?_
 refine acallk (refNumber_calls l.length size (by omega) hs s) ?_
 rintro r s' ⟨rfl,rfl⟩
 refine jV (Ai @bs_size (Ai @bs_append (Ai @length_be (i64_room (show size + l.length < 2 ^ 62 by omega))))) hK ?_;clear hK K
 exact jJ
end Go.Proofs.YtfjlmkifiihgkaaGreatDoor
namespace Go.Proofs.YtfjlmkifiihgkaaGreatDoor
open Go Go.AM Go.Proofs
variable {Γ : Nat→List AV}
theorem open_set (l : List UInt8) (s : AS) (hl : l.length≤2 ^ 45) : ACalls Tryz.prog Γ 100 [bytesV l .any] s (fun r s'=>∃ p,s.objs p = none∧r = .ptr p 0∧s' = s.set p (eyeC (l,0))):=EyeS.open (open_calls l s hl)
theorem eyeU8_set (s : AS) (p : Nat) (st : EyeSt) (h : s.objs p = some (eyeC st)) : ACalls Tryz.prog Γ 187 [.ptr p 0] s (fun r s'=>r = .v (.int .i64 (eyeNum 1 st).1)∧s' = s.set p (eyeC (eyeNum 1 st).2)):=EyeS.call (eyeU8_calls _ s p st (EyeS.at h))
theorem eyeU64_set (s : AS) (p : Nat) (st : EyeSt) (h : s.objs p = some (eyeC st)) : ACalls Tryz.prog Γ 102 [.ptr p 0] s (fun r s'=>r = .v (.int .u64 (eyeNum 8 st).1)∧s' = s.set p (eyeC (eyeNum 8 st).2)):=EyeS.call (eyeU64_calls _ s p st (EyeS.at h))
theorem eyeShort_set (s : AS) (p : Nat) (st : EyeSt) (most : Int) (hl : st.1.length≤2 ^ 45) (h : s.objs p = some (eyeC st)) : ACalls Tryz.prog Γ 101 [.ptr p 0,.v (.int .i64 most)] s (fun r s'=>r = bytesV (eyeText 1 most st).1 .any∧s' = s.set p (eyeC (eyeText 1 most st).2)):=EyeS.call (eyeShort_calls _ s p st most hl (EyeS.at h))
theorem eyeFail_set (s : AS) (p : Nat) (st : EyeSt) (e : Int) (h : s.objs p = some (eyeC st)) : ACalls Tryz.prog Γ 188 [.ptr p 0,.v (.int .i64 e)] s (fun r s'=>r = .tup []∧s' = s.set p (eyeC (st.1,if st.2 = 0 then e else st.2))):=EyeS.call (eyeFail_calls _ s p st e (EyeS.at h))
theorem eyeEnd_at (s : AS) (p : Nat) (st : EyeSt) (h : s.objs p = some (eyeC st)) : ACalls Tryz.prog Γ 104 [.ptr p 0] s (fun r s'=>r = .v (.int .i64 (eyeEnd st))∧s' = s):=eyeEnd_calls _ s p st (EyeS.at h)
theorem eyeErr_at (s : AS) (p : Nat) (st : EyeSt) (h : s.objs p = some (eyeC st)) : ACalls Tryz.prog Γ 190 [.ptr p 0] s (fun r s'=>r = .v (.int .i64 st.2)∧s' = s):=eyeErr_calls _ s p st (EyeS.at h)
end Go.Proofs.YtfjlmkifiihgkaaGreatDoor
