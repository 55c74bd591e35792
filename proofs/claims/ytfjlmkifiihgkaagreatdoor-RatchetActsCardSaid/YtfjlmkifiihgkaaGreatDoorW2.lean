/- Contracts of the program's functions, each walked once; the conditions stand in each theorem. -/
import Derived.Test.YtfjlmkifiihgkaaGreatDoorAMp6
import Derived.Test.YtfjlmkifiihgkaaGreatDoorW1
import Derived.Test.YtfjlmkifiihgkaaGreatDoorAMp4
import Derived.Test.YtfjlmkifiihgkaaGreatDoorAMp3
set_option linter.unusedSimpArgs false
set_option linter.unusedVariables false
open Nat renaming reduceLT → Na, reduceLeDiff → Nb, reduceEqDiff → Nc, reduceAdd → Nk, reduceMul → Nf, reducePow → Ng, reduceSub → Nh, reduceBEq → Nz
open Int renaming reduceLT → Za, reduceLE → Zb, reduceToNat → Zc
open And renaming intro → Ai
open Go.AM renaming ashift → Qa, aconv → Qb, aindexAddr → Qc, aindex → Qd, aslice → Qe, abuiltin → Qf, awp_reg_seq → wS, awp_reg_end → wE, awp_seq_k → wK, awp_cond_k → wC
open Go.AM.AV renaming cells → Qg, one → Qh
set_option maxRecDepth 100000
set_option maxHeartbeats 8000000
set_option autoImplicit false
namespace Go.Proofs.YtfjlmkifiihgkaaGreatDoor
open Go Go.AM Go.Proofs
variable {Γ : Nat→List AV}
theorem fitI_iff (x : Int) : fitI x↔x = 1∨x = 2∨x = 4∨x = 8∨x = 16∨x = 32:=by unfold fitI Fit; omega
theorem refFits18_calls (x : Int) (s : AS) : ACalls Tryz.prog Γ 192 [.v (.int .i64 x)] s (fun r s'=>r = .v (.bool (decide (fitI x)))∧s' = s):=by
 refine acalls_body Tryz.func192 rfl Tryz.ntmps192 Tryz.results192 (by simp) ?_
 refine jA ?_
 rcases tt6 (x == 1) (x == 2) (x == 4) (x == 8) (x == 16) (x == 32) with hd | hd | hd | hd | hd | hd | hd
 all_goals
  refine jB @hd ?_
  refine jI ?_
  simp only [beq_iff_eq,beq_eq_false_iff_ne,ne_eq] at hd
  have hf:=fitI_iff x
 case inr.inr.inr.inr.inr.inr =>
  rw [decide_eq_false (by rw [hf]; omega)]
  exact ⟨_,_,AV.weak.refl _,AS.le.refl _,rfl,rfl⟩
 all_goals
  rw [decide_eq_true (by rw [hf]; omega)]
  exact ⟨_,_,AV.weak.refl _,AS.le.refl _,rfl,rfl⟩
theorem refLevel18_calls (x : Int) (s : AS) : ACalls Tryz.prog Γ 144 [.v (.int .i64 x)] s (fun r s'=>r = .v (.int .i64 (lvI x))∧s' = s):=by
 refine acalls_body Tryz.func144 rfl Tryz.ntmps144 Tryz.results144 (by simp) ?_
 refine jA ?_
 refine wK fun K hK=>?_
 by_cases h : 0≤x∧x < 63
 ·obtain ⟨n,rfl⟩:=Int.eq_ofNat_of_zero_le h.1
  have hn : n < 63:=by omega
  have h0 : decide ((n : Int) < 0) = false:=decide_eq_false (by omega)
  have h1 : decide ((62 : Int) < (n : Int)) = false:=decide_eq_false (by omega)
  refine jB (Ai @h0 @h1) ?_
  refine jF ?_
  refine awp_skip ?_
  refine hK _ _ ?_;clear hK K
  refine jA ?_
  refine wK fun K hK=>?_
  refine jA ?_
  refine awp_block ?_
  refine awp_loop (fun E s2=>∃ (k m : Nat),m < 63∧k + lv m = lv n∧E 3 = .v (.int .i64 k)∧E 4 = .v (.int .i64 m)∧s2 = s)
   (fun E _=>match E 4 with | .v (.int _ i)=>i.toNat | _=>0) ?_ ?_
  ·exact ⟨0,n,hn,by omega,by simp only [upd,Nc,↓reduceIte]; rfl,by simp only [upd,initE,List.getD_cons_zero,List.getD_cons_succ,Nc,↓reduceIte],rfl⟩
  ·rintro E1 s2 ⟨k,m,hm,hk,g3,g4,rfl⟩ -
   refine wK fun K2 hK2=>?_
   have hlv:=lv_half m hm
   have hr : irem (m : Int) 2 = ((m % 2 : Nat) : Int):=irem_u m 2
   have hq : iquo .i64 (m : Int) 2 = ((m / 2 : Nat) : Int):=iquo_nat m (by omega)
   by_cases hodd : m % 2 = 1
   ·have hl2:=hlv.1 hodd
    have hle:=lv_le n
    have hy : ((irem (m : Int) 2) == 1) = true:=by rw [hr]; exact yesI (by omega)
    refine jB (Ai @g4 @hy) ?_
    refine wC fun X Y hX hY=>?_
    simp only [↓DN,Qa,Qb,Qc,Qd,Qe,Qf,Qg,Qh,reduceCtorEq,↓reduceIte,Na,Nb,Nc,Nk,Nf,Ng,Nh,Za,Zb,Zc,TT,DB,hy]
    refine hX ?_;clear hX hY X Y
    refine awp_skip ?_
    refine hK2 _ _ ?_;clear hK2 K2
    refine wK fun K3 hK3=>?_
    refine awp_block ?_
    refine jD @g3 ?_
    simp only [blockQ,thenQ,if_true,if_false]
    refine hK3 _ _ ?_;clear hK3 K3
    refine jD (Ai @g4 (Ai @hq (eye_succ k (by omega)))) ?_
    refine ⟨⟨k + 1,m / 2,by omega,by omega,by simp only [upd,Nc,↓reduceIte],by simp only [upd,Nc,↓reduceIte],rfl⟩,?_⟩
    simp only [g4,upd,↓reduceIte]
    omega
   ·have hl2:=hlv.2 (by omega)
    have hy : ((irem (m : Int) 2) == 1) = false:=by rw [hr]; exact notI (by omega)
    refine jB (Ai @g4 @hy) ?_
    refine wC fun X Y hX hY=>?_
    simp only [↓DN,Qa,Qb,Qc,Qd,Qe,Qf,Qg,Qh,reduceCtorEq,↓reduceIte,Na,Nb,Nc,Nk,Nf,Ng,Nh,Za,Zb,Zc,TT,DB,hy]
    refine hY ?_;clear hX hY X Y
    refine awp_exit ?_
    simp only [thenQ,blockQ,if_true]
    refine hK _ _ ?_;clear hK hK2 K2 K
    refine jB @g3 ?_
    refine jI ?_
    exact ⟨_,_,AV.weak.refl _,AS.le.refl _,by rw [lvI_nat hn,show k = lv n by omega],rfl⟩
 ·rw [show lvI x = 0 from if_neg h]
  by_cases h0 : x < 0
  ·refine jB (decide_eq_true h0) ?_
   refine jE ?_
   refine jA ?_
   exact jJ
  ·have h1 : (62 : Int) < x:=by omega
   refine jB (Ai (decide_eq_false h0) (decide_eq_true h1)) ?_
   refine jE ?_
   refine jA ?_
   exact jJ
theorem refKids18_calls (x : Int) (hx : -9000000000000000000≤x∧x≤9000000000000000000) (s : AS) : ACalls Tryz.prog Γ 78 [.v (.int .i64 x)] s
  (fun r s'=>r = (match kidsI x with | some k=>.tup [.v (.int .i64 k.1),.v (.int .i64 k.2),.v (.bool true)] | none=>.tup [.v (.int .i64 0),.v (.int .i64 0),.v (.bool false)])∧s' = s):=by
 refine acalls_body Tryz.func78 rfl Tryz.ntmps78 Tryz.results78 (by simp) ?_
 have hl:=lvI_le x
 have hp:=pow_le5 hl
 refine jA ?_
 refine wK fun K hK=>?_
 refine jQ fun K hK=>?_
 refine acallk (refLevel18_calls x _) ?_
 rintro r s1 ⟨rfl,rfl⟩
 by_cases h : lvI x = 0
 ·refine jV (nat0 h) hK ?_;clear hK K
  refine jE ?_
  refine jA ?_
  refine jI ?_
  rw [show kidsI x = none from if_pos h]
  exact ⟨_,_,AV.weak.refl _,AS.le.refl _,rfl,rfl⟩
 ·refine jV (nat0F h) hK ?_;clear hK K
  refine jF ?_
  refine awp_skip ?_
  refine hK _ _ ?_;clear hK K
  refine jA ?_
  refine wK fun K hK=>?_
  refine jA ?_
  refine awp_block ?_
  refine awp_loop (fun E s2=>∃ (i : Nat),i < lvI x∧E 6 = .v (.int .i64 ((i + 1 : Nat) : Int))∧E 5 = .v (.int .i64 ((2 ^ i : Nat) : Int))∧E 0 = .v (.int .i64 x)∧s2 = s1)
   (fun E _=>match E 6 with | .v (.int _ i)=>7 - i.toNat | _=>0) ?_ ?_
  ·exact ⟨0,by omega,by simp only [upd,Nc,↓reduceIte]; rfl,by simp only [upd,Nc,↓reduceIte]; rfl,by simp only [upd,initE,List.getD_cons_zero,List.getD_cons_succ,Nc,↓reduceIte],rfl⟩
  ·rintro E1 s2 ⟨i,hi,g6,g5,g0,rfl⟩ -
   refine wK fun K2 hK2=>?_
   refine jS (Ai @g6 @g0) fun K hK=>?_
   refine acallk (refLevel18_calls x _) ?_
   rintro r s3 ⟨rfl,rfl⟩
   by_cases hi' : i + 1 < lvI x
   ·refine jV (Ai @eye_lt_nat (decide_eq_true hi')) hK ?_;clear hK K
    refine jE ?_
    refine awp_skip ?_
    refine hK2 _ _ ?_;clear hK2 K2
    refine wK fun K3 hK3=>?_
    refine awp_block ?_
    have hp2:=pow_le5 (show i≤5 by omega)
    have hm : imul .i64 ((2 ^ i : Nat) : Int) 2 = ((2 ^ (i + 1) : Nat) : Int):=by rw [imul_i64 (by omega),Nat.pow_succ]; omega
    refine jD (Ai @g5 @hm) ?_
    simp only [blockQ,thenQ,if_true,if_false]
    refine hK3 _ _ ?_;clear hK3 K3
    refine jD (Ai @g6 (eye_succ (i + 1) (by omega))) ?_
    refine ⟨⟨i + 1,hi',by simp only [upd,Nc,↓reduceIte],by simp only [upd,Nc,↓reduceIte],by simp only [upd,g0,Nc,↓reduceIte],rfl⟩,?_⟩
    simp only [g6,upd,↓reduceIte]
    omega
   ·refine jV (Ai @eye_lt_nat (decide_eq_false hi')) hK ?_;clear hK K
    refine jF ?_
    refine awp_exit ?_
    simp only [thenQ,blockQ,if_true]
    refine hK _ _ ?_;clear hK hK2 K2 K
    have he : 2 ^ i = 2 ^ lvI x / 2:=by
     rw [show lvI x = i + 1 by omega,Nat.pow_succ]; omega
    rw [he] at g5
    refine jB (Ai @g5 (Ai @g0 (Ai (isub_i64 (a:=x) (b:=((2 ^ lvI x / 2 : Nat) : Int)) (by omega)) (iadd_i64 (a:=x) (b:=((2 ^ lvI x / 2 : Nat) : Int)) (by omega))))) ?_
    refine jI ?_
    rw [show kidsI x = some (_,_) from if_neg h]
    exact ⟨_,_,AV.weak.refl _,AS.le.refl _,rfl,rfl⟩
theorem way18_calls (leaf l : Nat) (hl : Fit l) (hn : leaf < l) (s : AS) : ACalls Tryz.prog Γ 209 [.v (.int .i64 ((2 * leaf : Nat) : Int)),.v (.int .i64 l)] s
  (fun r s'=>r = intsV (natsI (wayL leaf l)) .any∧s' = s):=by
 refine acalls_body Tryz.func209 rfl Tryz.ntmps209 Tryz.results209 (by simp) ?_
 have hl':=hl.le
 have hpl:=path_len hl hn
 have hwl : (wayL leaf l).length≤6:=by simp [wayL]; omega
 have hw0 : 0 < (wayL leaf l).length:=by simp [wayL]
 have hst:=fun (i : Nat) (h : i < (wayL leaf l).length)=>way_steps hl hn h
 have hs0 : wst leaf l 0 = (0,2 * l - 2):=rfl
 have hs1 : ∀ j,wst leaf l (j + 1) = (if 2 * leaf < ((wst leaf l j).1 + (wst leaf l j).2) / 2 then ((wst leaf l j).1,((wst leaf l j).1 + (wst leaf l j).2) / 2 - 1) else (((wst leaf l j).1 + (wst leaf l j).2) / 2 + 1,(wst leaf l j).2)):=fun j=>rfl
 generalize wayL leaf l = P at *
 generalize wst leaf l = S at *
 refine jA ?_
 refine jA ?_
 have e0 : isub .i64 (imul .i64 2 (l : Int)) 2 = ((2 * l - 2 : Nat) : Int):=by rw [imul2_nat l (by omega),isub_i64 (by omega)]; omega
 refine jB @e0 ?_
 refine awp_block ?_
 refine awp_loop (fun E s2=>∃ (i : Nat) (x : AV),i < P.length∧E 6 = .v (.int .i64 ((S i).1 : Nat))∧E 7 = .v (.int .i64 ((S i).2 : Nat))∧E 0 = .v (.int .i64 ((2 * leaf : Nat) : Int))∧E 5 = x∧RBuf 1 s s2 x i ((natsI (P.take i)).map intC)∧s.le s2)
  (fun E _=>P.length + 1 - cellN (E 5)) ?_ ?_
 ·refine ⟨0,_,hw0,?_,?_,by simp only [upd,initE,List.getD_cons_zero,List.getD_cons_succ,Nc,↓reduceIte],by simp only [upd,Nc,↓reduceIte]; rfl,RBuf.nil _ _ _,AS.le.refl _⟩
  ·rw [hs0]; simp only [upd,Nc,↓reduceIte]; rfl
  ·rw [hs0]; simp only [upd,Nc,↓reduceIte]
 ·rintro E1 s2 ⟨i,x,hi,g6,g7,g0,g5,hx,hle⟩ -
  refine awp_block ?_
  obtain ⟨w1,w2,w3⟩:=hst i hi
  obtain ⟨mid,hmid⟩ : ∃ m,m = ((S i).1 + (S i).2) / 2:=⟨_,rfl⟩
  have hs1':=hs1 i
  rw [← hmid] at w1 w2 hs1'
  have e1 : iquo .i64 (iadd .i64 (((S i).1 : Nat) : Int) (((S i).2 : Nat) : Int)) 2 = (mid : Int):=by
   rw [iadd_i64 (by omega),show (((S i).1 : Nat) : Int) + (((S i).2 : Nat) : Int) = (((S i).1 + (S i).2 : Nat) : Int) by omega,iquo_nat _ (by omega),hmid]
  refine jB (Ai @g6 (Ai @g7 @e1)) ?_
  have htk : natsI (P.take (i + 1)) = natsI (P.take i) ++ [(mid : Int)]:=by
   unfold natsI
   rw [List.take_succ_eq_append_getElem hi,List.map_append]
   rw [List.getElem?_eq_getElem hi] at w1
   rw [Option.some.inj w1]
   rfl
  refine wK fun K3 hK3=>?_
  have hend : ∀ (E : Env) (s3 : AS) (x3 : AV),E 0 = .v (.int .i64 ((2 * leaf : Nat) : Int))→E 6 = .v (.int .i64 ((S i).1 : Nat))→E 7 = .v (.int .i64 ((S i).2 : Nat))→E 8 = .v (.int .i64 mid)→E 5 = x3→RBuf 1 s s3 x3 (i + 1) ((natsI (P.take (i + 1))).map intC)→s.le s3→K3 E s3:=by
   intro E s3 x3 f0 f6 f7 f8 f5 fx fle
   refine hK3 _ _ ?_;clear hK3 K3
   refine wK fun K4 hK4=>?_
   by_cases he : 2 * leaf = mid
   ·have hi1:=w2.2 he
    refine jB (Ai @f0 @f8) ?_
    refine wC fun X Y hX hY=>?_
    simp only [↓DN,Qa,Qb,Qc,Qd,Qe,Qf,Qg,Qh,reduceCtorEq,↓reduceIte,Na,Nb,Nc,Nk,Nf,Ng,Nh,Za,Zb,Zc,TT,DB,yesI (show ((2 * leaf : Nat) : Int) = (mid : Int) by omega)]
    refine hX ?_;clear hX hY X Y
    rw [hi1,List.take_of_length_le (Nat.le_refl _)] at fx
    have hw:=fx.weak
    refine jB @f5 ?_
    refine jI ?_
    refine ⟨_,_,?_,fle,rfl,rfl⟩
    have hln:=natsI_len P
    unfold intsV
    rw [hln]
    exact hw
   ·have hi1 : i + 1 < P.length:=by
     have:=mt w2.1 he
     omega
    refine jB (Ai @f0 @f8) ?_
    refine wC fun X Y hX hY=>?_
    simp only [↓DN,Qa,Qb,Qc,Qd,Qe,Qf,Qg,Qh,reduceCtorEq,↓reduceIte,Na,Nb,Nc,Nk,Nf,Ng,Nh,Za,Zb,Zc,TT,DB,notI (show ¬ ((2 * leaf : Nat) : Int) = (mid : Int) by omega)]
    refine hY ?_;clear hX hY X Y
    refine awp_skip ?_
    refine hK4 _ _ ?_;clear hK4 K4
    have m1 : cellN (E1 5) = i:=by
     rw [g5]
     rcases hx with ⟨rfl,rfl,_⟩ | ⟨t,e,rfl,_⟩ <;> rfl
    have m2 : cellN (E 5) = i + 1:=by
     rw [f5]
     rcases fx with ⟨rfl,h,_⟩ | ⟨t,e,rfl,_⟩
     ·omega
     ·rfl
    by_cases hlt : 2 * leaf < mid
    ·rw [if_pos hlt] at hs1'
     have e2 : isub .i64 (mid : Int) 1 = ((mid - 1 : Nat) : Int):=by rw [isub_i64 (by omega)]; omega
     refine jB (Ai @f0 @f8) ?_
     refine wC fun X Y hX hY=>?_
     simp only [↓DN,Qa,Qb,Qc,Qd,Qe,Qf,Qg,Qh,reduceCtorEq,↓reduceIte,Na,Nb,Nc,Nk,Nf,Ng,Nh,Za,Zb,Zc,TT,DB,eq_true (show ((2 * leaf : Nat) : Int) < (mid : Int) by omega),not_true_eq_false]
     refine hX ?_;clear hX hY X Y
     refine jD (Ai @f8 @e2) ?_
     refine ⟨⟨i + 1,x3,hi1,?_,?_,by simp only [upd,f0,Nc,↓reduceIte],by simp only [upd,f5,Nc,↓reduceIte],fx,fle⟩,?_⟩
     ·rw [hs1']; simp only [upd,f6,Nc,↓reduceIte]
     ·rw [hs1']; simp only [upd,Nc,↓reduceIte]
     ·simp only [upd,Nc,↓reduceIte,m1,m2]
      omega
    ·rw [if_neg hlt] at hs1'
     refine jB (Ai @f0 @f8) ?_
     refine wC fun X Y hX hY=>?_
     simp only [↓DN,Qa,Qb,Qc,Qd,Qe,Qf,Qg,Qh,reduceCtorEq,↓reduceIte,Na,Nb,Nc,Nk,Nf,Ng,Nh,Za,Zb,Zc,TT,DB,eq_false (show ¬ ((2 * leaf : Nat) : Int) < (mid : Int) by omega),not_false_eq_true]
     refine hY ?_;clear hX hY X Y
     refine jD (Ai @f8 (eye_succ mid (by omega))) ?_
     refine ⟨⟨i + 1,x3,hi1,?_,?_,by simp only [upd,f0,Nc,↓reduceIte],by simp only [upd,f5,Nc,↓reduceIte],fx,fle⟩,?_⟩
     ·rw [hs1']; simp only [upd,Nc,↓reduceIte]
     ·rw [hs1']; simp only [upd,f7,Nc,↓reduceIte]
     ·simp only [upd,Nc,↓reduceIte,m1,m2]
      omega
  clear hK3
  rcases hx with ⟨rfl,hi0,hL0⟩ | ⟨t,e,rfl,ht,ht0⟩
  ·refine wE fun K hK=>?_
   simp only [↓DN,Qa,Qb,Qc,Qd,Qe,Qf,Qg,Qh,reduceCtorEq,↓reduceIte,Na,Nb,Nc,Nk,Nf,Ng,Nh,Za,Zb,Zc,TT,g5,nilS,List.replicate_succ]
   intro t ht
   refine hK _ _ (hend _ _ (.sl 1 1 [.v (.int .i64 (mid : Int))] (.own t 0)) (by simp only [upd,g0,Nc,↓reduceIte]) (by simp only [upd,g6,Nc,↓reduceIte]) (by simp only [upd,g7,Nc,↓reduceIte]) (by simp only [upd,Nc,↓reduceIte]) (by simp only [upd,Nc,↓reduceIte]) ?_ ?_)
   ·refine .inr ⟨t,0,?_,by simp [AS.gain],own_none_le hle ht⟩
    rw [htk,List.map_append,hL0]
    subst hi0
    rfl
   ·exact AS.le_gain hle (own_none_le hle ht) 0
  ·refine wE fun K hK=>?_
   simp only [↓DN,Qa,Qb,Qc,Qd,Qe,Qf,Qg,Qh,reduceCtorEq,↓reduceIte,Na,Nb,Nc,Nk,Nf,Ng,Nh,Za,Zb,Zc,TT,g5,ht,List.replicate_succ]
   have hln : (natsI (P.take i)).length = i:=by rw [natsI_len,List.length_take]; omega
   refine ⟨by omega,by omega,hK _ _ (hend _ _ (.sl 1 (i + 1) ((natsI (P.take i)).map intC ++ [.v (.int .i64 (mid : Int))]) (.own t (e + 1))) (by simp only [upd,g0,Nc,↓reduceIte]) (by simp only [upd,g6,Nc,↓reduceIte]) (by simp only [upd,g7,Nc,↓reduceIte]) (by simp only [upd,Nc,↓reduceIte]) (by simp only [upd,Nc,↓reduceIte]) ?_ ?_)⟩
   ·exact .inr ⟨t,e + 1,by rw [htk,List.map_append]; rfl,by simp [AS.gain],ht0⟩
   ·exact AS.le_gain hle ht0 (e + 1)
end Go.Proofs.YtfjlmkifiihgkaaGreatDoor
namespace Go.Proofs.YtfjlmkifiihgkaaGreatDoor
open Go Go.AM Go.Proofs
variable {Γ : Nat→List AV}
theorem way_get {leaf l i : Nat} (h : i < (pathL leaf l).length) : (natsI (wayL leaf l))[(pathL leaf l).length - 1 - i]? = some ((((pathL leaf l)[i]'h : Nat)) : Int):=by
 unfold natsI wayL
 rw [List.getElem?_map,List.getElem?_append_left (by simp; omega),List.getElem?_reverse (by omega)]
 rw [show (pathL leaf l).length - 1 - ((pathL leaf l).length - 1 - i) = i by omega,List.getElem?_eq_getElem h]
 rfl
theorem refPath18_calls (leaf l : Nat) (hl : Fit l) (hn : leaf < l) (s : AS) : ACalls Tryz.prog Γ 140 [.v (.int .i64 leaf),.v (.int .i64 l)] s
  (fun r s'=>r = intsV (natsI (pathL leaf l)) .any∧s' = s):=by
 refine acalls_body Tryz.func140 rfl Tryz.ntmps140 Tryz.results140 (by simp) ?_
 have hl':=hl.le
 have hpl:=path_len hl hn
 have hg:=fun (i : Nat) (h : i < (pathL leaf l).length)=>way_get h
 have hWl : (natsI (wayL leaf l)).length = (pathL leaf l).length + 1:=by rw [natsI_len]; simp [wayL]
 have hway:=fun s=>way18_calls (Γ:=Γ) leaf l hl hn s
 generalize natsI (wayL leaf l) = W at *
 generalize pathL leaf l = P at *
 have hf : decide (fitI (l : Int)) = true:=decide_eq_true (fitI_nat.2 hl)
 have h1 : decide ((l : Int)≤(leaf : Int)) = false:=decide_eq_false (by omega)
 refine jA ?_
 refine wK fun K hK=>?_
 refine jQ fun K hK=>?_
 refine acallk (refFits18_calls l _) ?_
 rintro r s1 ⟨rfl,rfl⟩
 rw [hf]
 refine jV (Ai @negF @h1) hK ?_;clear hK K
 refine jF ?_
 refine awp_skip ?_
 refine hK _ _ ?_;clear hK K
 refine jS (imul2_nat leaf (by omega)) fun K hK=>?_
 refine acallk (hway _) ?_
 rintro r s2 ⟨rfl,rfl⟩
 refine jR hK ?_;clear hK K
 refine jA ?_
 refine wK fun K hK=>?_
 have e0 : isub .i64 (W.length : Int) 2 = ((P.length : Nat) : Int) - 1:=by rw [isub_i64 (by omega)]; omega
 refine jB (Ai @intsV.eq_1 @e0) ?_
 refine awp_block ?_
 refine awp_loop (fun E s3=>∃ (i : Nat) (x : AV),i≤P.length∧E 7 = .v (.int .i64 (((P.length : Nat) : Int) - 1 - (i : Int)))∧E 5 = .sl 1 W.length (W.map intC) .any∧E 6 = x∧RBuf 1 s2 s3 x i ((natsI (P.take i)).map intC)∧s2.le s3)
  (fun E _=>P.length + 1 - cellN (E 6)) ?_ ?_
 ·refine ⟨0,_,Nat.zero_le _,?_,by simp only [upd,Nc,↓reduceIte],by simp only [upd,Nc,↓reduceIte]; rfl,RBuf.nil _ _ _,AS.le.refl _⟩
  simp only [upd,Nc,↓reduceIte]
  congr 2
  omega
 ·rintro E1 s3 ⟨i,x,hi,g7,g5,g6,hx,hle⟩ -
  refine wK fun K2 hK2=>?_
  by_cases hi' : i < P.length
  ·have hge : decide ((0 : Int)≤(((P.length : Nat) : Int) - 1 - (i : Int))) = true:=decide_eq_true (by omega)
   refine jB (Ai @g7 @hge) ?_
   refine jE ?_
   refine awp_skip ?_
   refine hK2 _ _ ?_;clear hK2 K2
   refine wK fun K3 hK3=>?_
   refine awp_block ?_
   have htk : natsI (P.take (i + 1)) = natsI (P.take i) ++ [((P[i] : Nat) : Int)]:=by unfold natsI; rw [List.take_succ_eq_append_getElem hi',List.map_append]; rfl
   have hend : ∀ (E : Env) (s4 : AS) (x3 : AV),E 7 = .v (.int .i64 (((P.length : Nat) : Int) - 1 - (i : Int)))→E 5 = .sl 1 W.length (W.map intC) .any→E 6 = x3→RBuf 1 s2 s4 x3 (i + 1) ((natsI (P.take (i + 1))).map intC)→s2.le s4→K3 E s4:=by
    intro E s4 x3 f7 f5 f6 fx fle
    refine hK3 _ _ ?_;clear hK3 K3
    refine jD @f7 ?_
    refine ⟨⟨i + 1,x3,hi',?_,by simp only [upd,f5,Nc,↓reduceIte],by simp only [upd,f6,Nc,↓reduceIte],fx,fle⟩,?_⟩
    ·simp only [upd,Nc,↓reduceIte]
     rw [isub_i64 (by omega)]
     congr 2
     omega
    ·have m1 : cellN (E1 6) = i:=by
      rw [g6]
      rcases hx with ⟨rfl,rfl,_⟩ | ⟨t,e,rfl,_⟩ <;> rfl
     have m2 : cellN (E 6) = i + 1:=by
      rw [f6]
      rcases fx with ⟨rfl,h,_⟩ | ⟨t,e,rfl,_⟩
      ·omega
      ·rfl
     simp only [upd,Nc,↓reduceIte,m1,m2]
     omega
   clear hK3
   have hgi:=hg i hi'
   obtain ⟨j,hj⟩ : ∃ j,j = P.length - 1 - i:=⟨_,rfl⟩
   have hji : ((P.length : Nat) : Int) - 1 - (i : Int) = (j : Int):=by omega
   have hjW : j < W.length:=by omega
   rw [← hj] at hgi
   have hat : List.take 1 (List.drop j (W.map intC)) = [.v (.int .i64 ((P[i] : Nat) : Int))]:=by
    rw [eat_int hjW]
    rw [List.getElem?_eq_getElem hjW] at hgi
    rw [Option.some.inj hgi]
   have hge : (0 : Int)≤(j : Int):=by omega
   rw [hji] at g7 hend
   rcases hx with ⟨rfl,hi0,hL0⟩ | ⟨t,e,rfl,ht,ht0⟩
   ·refine wE fun K hK=>?_
    simp only [↓DN,Qa,Qb,Qc,Qd,Qe,Qf,Qg,Qh,reduceCtorEq,↓reduceIte,Na,Nb,Nc,Nk,Nf,Ng,Nh,Za,Zb,Zc,TT,g5,g6,g7,nilS,List.replicate_succ,eye_lt_nat,hjW,hge,hat]
    intro t ht
    refine hK _ _ (hend _ _ (.sl 1 1 [.v (.int .i64 ((P[i] : Nat) : Int))] (.own t 0)) (by simp only [upd,g7,Nc,↓reduceIte]) (by simp only [upd,g5,Nc,↓reduceIte]) (by simp only [upd,Nc,↓reduceIte]) ?_ ?_)
    ·refine .inr ⟨t,0,?_,by simp [AS.gain],own_none_le hle ht⟩
     rw [htk,List.map_append,hL0]
     subst hi0
     rfl
    ·exact AS.le_gain hle (own_none_le hle ht) 0
   ·refine wE fun K hK=>?_
    simp only [↓DN,Qa,Qb,Qc,Qd,Qe,Qf,Qg,Qh,reduceCtorEq,↓reduceIte,Na,Nb,Nc,Nk,Nf,Ng,Nh,Za,Zb,Zc,TT,g5,g6,g7,ht,List.replicate_succ,eye_lt_nat,hjW,hge,hat]
    have hln : (natsI (P.take i)).length = i:=by rw [natsI_len,List.length_take]; omega
    refine ⟨by omega,by omega,hK _ _ (hend _ _ (.sl 1 (i + 1) ((natsI (P.take i)).map intC ++ [.v (.int .i64 ((P[i] : Nat) : Int))]) (.own t (e + 1))) (by simp only [upd,g7,Nc,↓reduceIte]) (by simp only [upd,g5,Nc,↓reduceIte]) (by simp only [upd,Nc,↓reduceIte]) ?_ ?_)⟩
    ·exact .inr ⟨t,e + 1,by rw [htk,List.map_append]; rfl,by simp [AS.gain],ht0⟩
    ·exact AS.le_gain hle ht0 (e + 1)
  ·have hge : decide ((0 : Int)≤(((P.length : Nat) : Int) - 1 - (i : Int))) = false:=decide_eq_false (by omega)
   refine jB (Ai @g7 @hge) ?_
   refine jF ?_
   refine awp_exit ?_
   simp only [thenQ,blockQ,if_true]
   refine hK _ _ ?_;clear hK hK2 K2 K
   obtain rfl : i = P.length:=by omega
   rw [List.take_of_length_le (Nat.le_refl _)] at hx
   have hw:=hx.weak
   refine jB @g6 ?_
   refine jI ?_
   refine ⟨_,_,?_,hle,rfl,rfl⟩
   have hln:=natsI_len P
   unfold intsV
   rw [hln]
   exact hw
theorem refUnder18_calls (x : Int) (s : AS) : ACalls Tryz.prog Γ 73 [.v (.int .i64 x)] s (fun r s'=>r = .tup [.v (.int .i64 (undI x).1),.v (.int .i64 (undI x).2)]∧s' = s):=by
 refine acalls_body Tryz.func73 rfl Tryz.ntmps73 Tryz.results73 (by simp) ?_
 refine jA ?_
 refine wK fun K hK=>?_
 by_cases h : 0≤x∧x < 63
 ·obtain ⟨n,rfl⟩:=Int.eq_ofNat_of_zero_le h.1
  have hn : n < 63:=by omega
  have h1 : decide ((62 : Int) < (n : Int)) = false:=decide_eq_false (by omega)
  have hund : undI (n : Int) = ((lo n : Int),(hi n : Int)):=if_pos h
  refine jB (Ai @negF @h1) ?_
  refine jF ?_
  refine awp_skip ?_
  refine hK _ _ ?_;clear hK K
  refine jA ?_
  refine wK fun K hK=>?_
  refine awp_block ?_
  refine awp_loop (fun E s2=>∃ (m : Nat),m < 63∧lo m = lo n∧E 4 = .v (.int .i64 m)∧E 5 = .v (.int .i64 n)∧s2 = s)
   (fun E _=>match E 4 with | .v (.int _ i)=>lvI i | _=>0) ?_ ?_
  ·exact ⟨n,hn,rfl,by simp only [upd,initE,List.getD_cons_zero,List.getD_cons_succ,Nc,↓reduceIte],by simp only [upd,initE,List.getD_cons_zero,List.getD_cons_succ,Nc,↓reduceIte],rfl⟩
  ·rintro E1 s2 ⟨m,hm,hlo,g4,g5,rfl⟩ -
   refine wK fun K2 hK2=>?_
   refine jS @g4 fun K hK=>?_
   refine acallk (refLevel18_calls m _) ?_
   rintro r s3 ⟨rfl,rfl⟩
   rw [lvI_nat hm]
   by_cases hz : lv m = 0
   ·refine jR hK ?_;clear hK K
    refine wC fun X Y hX hY=>?_
    simp only [↓DN,Qa,Qb,Qc,Qd,Qe,Qf,Qg,Qh,reduceCtorEq,↓reduceIte,Na,Nb,Nc,Nk,Nf,Ng,Nh,Za,Zb,Zc,TT,DB,eq_false (show ¬ (0 : Int) < ((lv m : Nat) : Int) by omega),not_false_eq_true]
    refine hY ?_;clear hX hY X Y
    refine awp_exit ?_
    simp only [thenQ,blockQ,if_true]
    refine hK _ _ ?_;clear hK hK2 K2 K
    have hL:=(lo_leaf m hm hz).1
    refine wK fun K hK=>?_
    refine awp_block ?_
    refine awp_loop (fun E s4=>∃ (m' : Nat),m' < 63∧hi m' = hi n∧E 5 = .v (.int .i64 m')∧E 4 = .v (.int .i64 m)∧s4 = s3)
     (fun E _=>match E 5 with | .v (.int _ i)=>lvI i | _=>0) ?_ ?_
    ·exact ⟨n,hn,rfl,by simp only [upd,g5,Nc,↓reduceIte],by simp only [upd,g4,Nc,↓reduceIte],rfl⟩
    ·clear g4 g5
     rintro E2 s4 ⟨m',hm',hhi,g5,g4,rfl⟩ -
     refine wK fun K2 hK2=>?_
     refine jS @g5 fun K hK=>?_
     refine acallk (refLevel18_calls m' _) ?_
     rintro r s5 ⟨rfl,rfl⟩
     rw [lvI_nat hm']
     by_cases hz' : lv m' = 0
     ·refine jR hK ?_;clear hK K
      refine wC fun X Y hX hY=>?_
      simp only [↓DN,Qa,Qb,Qc,Qd,Qe,Qf,Qg,Qh,reduceCtorEq,↓reduceIte,Na,Nb,Nc,Nk,Nf,Ng,Nh,Za,Zb,Zc,TT,DB,eq_false (show ¬ (0 : Int) < ((lv m' : Nat) : Int) by omega),not_false_eq_true]
      refine hY ?_;clear hX hY X Y
      refine awp_exit ?_
      simp only [thenQ,blockQ,if_true]
      refine hK _ _ ?_;clear hK hK2 K2 K
      have hH:=(lo_leaf m' hm' hz').2
      refine jB (Ai @g4 (Ai @g5 (Ai (iquo_nat m (by omega)) (iquo_nat m' (by omega))))) ?_
      refine jI ?_
      rw [← hL,← hH,hlo,hhi,hund]
      exact ⟨_,_,AV.weak.refl _,AS.le.refl _,rfl,rfl⟩
     ·obtain ⟨w1,w2,w3⟩:=hi_step m' hm' hz'
      refine jR hK ?_;clear hK K
      refine wC fun X Y hX hY=>?_
      simp only [↓DN,Qa,Qb,Qc,Qd,Qe,Qf,Qg,Qh,reduceCtorEq,↓reduceIte,Na,Nb,Nc,Nk,Nf,Ng,Nh,Za,Zb,Zc,TT,DB,eq_true (show (0 : Int) < ((lv m' : Nat) : Int) by omega),not_true_eq_false]
      refine hX ?_;clear hX hY X Y
      refine awp_skip ?_
      refine hK2 _ _ ?_;clear hK2 K2
      refine awp_block ?_
      have hkid : kidsI (m' : Int) = some (((m' : Int) - (hf m' : Int)),((m' + hf m' : Nat) : Int)):=by
       unfold kidsI
       rw [lvI_nat hm',if_neg hz']
       unfold hf
       congr 2
      refine jU @g5 fun K hK=>?_
      refine acallk (refKids18_calls m' (by omega) _) ?_
      rintro r s6 ⟨rfl,rfl⟩
      rw [hkid]
      simp only [↓DM,pval,DX,Nz,↓DN,Qa,Qb,Qc,Qd,Qe,Qf,Qg,Qh,reduceCtorEq,↓reduceIte,Na,Nb,Nc,Nk,Nf,Ng,Nh,Za,Zb,Zc,TT]
      refine hK _ _ ⟨⟨m' + hf m',w3,by rw [w1,hhi],by simp only [upd,Nc,↓reduceIte],by simp only [upd,g4,Nc,↓reduceIte],rfl⟩,?_⟩
      simp only [g5,upd,↓reduceIte]
      rw [lvI_nat hm',lvI_nat w3]
      omega
   ·obtain ⟨w1,w2,w3,w4⟩:=lo_step m hm hz
    refine jR hK ?_;clear hK K
    refine wC fun X Y hX hY=>?_
    simp only [↓DN,Qa,Qb,Qc,Qd,Qe,Qf,Qg,Qh,reduceCtorEq,↓reduceIte,Na,Nb,Nc,Nk,Nf,Ng,Nh,Za,Zb,Zc,TT,DB,eq_true (show (0 : Int) < ((lv m : Nat) : Int) by omega),not_true_eq_false]
    refine hX ?_;clear hX hY X Y
    refine awp_skip ?_
    refine hK2 _ _ ?_;clear hK2 K2
    refine awp_block ?_
    have hkid : kidsI (m : Int) = some (((m - hf m : Nat) : Int),((m : Int) + (hf m : Int))):=by
     unfold kidsI
     rw [lvI_nat hm,if_neg hz]
     unfold hf at w4 ⊢
     congr 2
     omega
    refine jU @g4 fun K hK=>?_
    refine acallk (refKids18_calls m (by omega) _) ?_
    rintro r s6 ⟨rfl,rfl⟩
    rw [hkid]
    simp only [↓DM,pval,DX,Nz,↓DN,Qa,Qb,Qc,Qd,Qe,Qf,Qg,Qh,reduceCtorEq,↓reduceIte,Na,Nb,Nc,Nk,Nf,Ng,Nh,Za,Zb,Zc,TT]
    refine hK _ _ ⟨⟨m - hf m,w3,by rw [w1,hlo],by simp only [upd,Nc,↓reduceIte],by simp only [upd,g5,Nc,↓reduceIte],rfl⟩,?_⟩
    simp only [g4,upd,↓reduceIte]
    rw [lvI_nat hm,lvI_nat w3]
    omega
 ·have hund : undI x = (0,-1):=if_neg h
  by_cases h0 : x < 0
  ·refine jB (decide_eq_true h0) ?_
   refine jE ?_
   refine jA ?_
   refine jI ?_
   rw [hund]
   exact ⟨_,_,AV.weak.refl _,AS.le.refl _,rfl,rfl⟩
  ·have h1 : (62 : Int) < x:=by omega
   refine jB (Ai (decide_eq_false h0) (decide_eq_true h1)) ?_
   refine jE ?_
   refine jA ?_
   refine jI ?_
   rw [hund]
   exact ⟨_,_,AV.weak.refl _,AS.le.refl _,rfl,rfl⟩
end Go.Proofs.YtfjlmkifiihgkaaGreatDoor
namespace Go.Proofs.YtfjlmkifiihgkaaGreatDoor
open Go Go.AM Go.Proofs
variable {Γ : Nat→List AV}
theorem clone_calls (l : List UInt8) (sp : Sp) (ha : sp.isAny = false) (s : AS) (hl : l.length≤2 ^ 45) : ACalls Tryz.prog Γ 184 [bytesV l sp] s (fun r s'=>r = bytesV l .any∧s' = s):=by
 refine acalls_body Tryz.func184 rfl Tryz.ntmps184 Tryz.results184 (by simp) ?_
 unfold bytesV
 refine jA ?_
 refine wK fun K hK=>?_
 refine jB (Ai @ha @and_false) ?_
 refine jF ?_
 refine awp_skip ?_
 refine hK _ _ ?_;clear hK K
 by_cases h0 : l.length = 0
 ·have hl0 : l = []:=List.eq_nil_of_length_eq_zero h0
  subst hl0
  refine jA ?_
  refine awp_ret ?_
  simp only [↓DN,Qa,Qb,Qc,Qd,Qe,Qf,Qg,Qh,reduceCtorEq,↓reduceIte,Na,Nb,Nc,Nk,Nf,Ng,Nh,Za,Zb,Zc,TT,retQ,AEnds,aresL,ares,atuple]
  exact ⟨_,s,AV.weak_any,AS.le.refl s,rfl,rfl⟩
 ·refine jS @h0 fun K hK=>?_
  refine ⟨by omega,by omega,fun t ht=>hK _ _ ?_⟩
  clear hK K
  refine awp_ret ?_
  simp only [↓DN,Qa,Qb,Qc,Qd,Qe,Qf,Qg,Qh,reduceCtorEq,↓reduceIte,Na,Nb,Nc,Nk,Nf,Ng,Nh,Za,Zb,Zc,TT,retQ,AEnds,aresL,ares,atuple]
  exact ⟨_,s,AV.weak_any,AS.le_gain (AS.le.refl s) ht 0,rfl,rfl⟩
theorem number_calls (s0 s : AS) (p : Nat) (l : List UInt8) (n size : Nat) (hn : n < 2 ^ 64) (hs : size≤8) (hl : l.length + 8≤2 ^ 45) (h : Pen s0 s p l false) :
  ACalls Tryz.prog Γ 195 [.ptr p 0,.v (.int .u64 n),.v (.int .i64 size)] s (fun r s'=>r = .tup []∧Pen s0 s' p (l ++ be size n) false):=by
 refine acalls_body Tryz.func195 rfl Tryz.ntmps195 Tryz.results195 (by simp) ?_
 refine jA ?_
 refine awp_block ?_
 refine awp_loop (fun E s1=>∃ (i : Int) (l' : List UInt8),E 6 = .v (.int .i64 i)∧-1≤i∧i < size∧E 0 = .ptr p 0∧E 1 = .v (.int .u64 n)∧Pen s0 s1 p l' false∧l' ++ be (i + 1).toNat n = l ++ be size n)
  (fun E _=>match E 6 with | .v (.int _ i)=>(i + 1).toNat | _=>0) ?_ ?_
 ·refine ⟨size - 1,l,?_,by omega,by omega,by simp [upd,initE],by simp [upd,initE],h,by congr 2; omega⟩
  simp [upd,isub_i64 (show -9223372036854775808≤(size : Int) - 1∧(size : Int) - 1≤9223372036854775807 by omega)]
 ·rintro E1 s1 ⟨i,l',h6,hi1,hi2,h0,h1,hp,hl'⟩ -
  obtain ⟨x,hx,hb⟩:=hp.obj
  refine wK fun K hK=>?_
  by_cases hi : 0≤i
  ·refine jB (Ai @h6 (Ai @h0 (Ai @h1 (Ai @hx (decide_eq_true hi))))) ?_
   refine jE ?_
   refine awp_skip ?_
   refine hK _ _ ?_;clear hK K
   refine wK fun K hK=>?_
   refine awp_block ?_
   have hmul : imul .i64 8 i = 8 * i:=imul_i64 (by omega)
   have hnn : ¬ (8 * i < 0):=by omega
   obtain ⟨j,rfl⟩:=Int.eq_ofNat_of_zero_le hi
   have hj : j < 8:=by omega
   have hstep:=be_step n j hj
   have hbe : be ((j : Int) + 1).toNat n = UInt8.ofNat (n / 2 ^ (8 * j)) :: be j n:=by
    rw [show ((j : Int) + 1).toNat = j + 1 from by omega]; rfl
   have hlen : l'.length≤l.length + size:=by
    have:=congrArg List.length hl'
    simp at this
    omega
   have hsub : isub .i64 (j : Int) 1 = (j : Int) - 1:=isub_i64 (by omega)
   have hend : ∀ (E2 : Env) (s2 : AS),E2 6 = .v (.int .i64 j)→E2 0 = .ptr p 0→E2 1 = .v (.int .u64 n)→Pen s0 s2 p (l' ++ [UInt8.ofNat (n / 2 ^ (8 * j))]) false→K E2 s2:=by
    intro E2 s2 e6 e0 e1 hp2
    refine hK _ _ ?_;clear hK K
    refine jD (Ai @e6 @hsub) ?_
    refine ⟨⟨(j : Int) - 1,_,by simp only [upd,↓reduceIte],by omega,by omega,by simp only [upd,e0,Nc,↓reduceIte],by simp only [upd,e1,Nc,↓reduceIte],hp2,?_⟩,?_⟩
    ·rw [← hl',hbe]
     simp
    ·simp only [h6,upd,↓reduceIte]
     omega
   clear hK
   rcases hb with ⟨rfl,hl0⟩ | ⟨t,e,rfl,ht,ht0⟩
   ·subst hl0
    refine awp_drw_end T.mixed [4,11,14] (by kernel_rfl) ?_
    intro K hK
    simp only [↓DM,pval,DX,Nz,↓DN,Qa,Qb,Qc,Qd,Qe,Qf,Qg,Qh,reduceCtorEq,↓reduceIte,Na,Nb,Nc,Nk,Nf,Ng,Nh,Za,Zb,Zc,TT,h6,h0,h1,hx,nilS,hmul,hnn,List.replicate_succ]
    intro t ht
    refine hK _ _ (hend _ _ (by simp only [upd,h6,Nc,↓reduceIte]) (by simp only [upd,h0,Nc,↓reduceIte]) (by simp only [upd,h1,Nc,↓reduceIte]) ?_)
    rw [hstep]
    exact hp.one ht _
   ·refine awp_drw_end T.mixed [4,11,14] (by kernel_rfl) ?_
    intro K hK
    simp only [↓DM,pval,DX,Nz,↓DN,Qa,Qb,Qc,Qd,Qe,Qf,Qg,Qh,reduceCtorEq,↓reduceIte,Na,Nb,Nc,Nk,Nf,Ng,Nh,Za,Zb,Zc,TT,h6,h0,h1,hx,bytesV,hmul,hnn,ht,List.replicate_succ]
    refine ⟨by omega,by omega,hK _ _ (hend _ _ (by simp only [upd,h6,Nc,↓reduceIte]) (by simp only [upd,h0,Nc,↓reduceIte]) (by simp only [upd,h1,Nc,↓reduceIte]) ?_)⟩
    rw [hstep]
    exact hp.more ht0 [_] rfl rfl
  ·have hi0 : i = -1:=by omega
   subst hi0
   refine jB (Ai @h6 (Ai @h0 (Ai @h1 @hx))) ?_
   refine jF ?_
   refine awp_exit ?_
   simp only [thenQ,blockQ,if_true,retQ,AEnds,aresL,atuple,List.toList_toArray]
   refine ⟨_,s1,AV.weak.refl _,AS.le.refl _,rfl,?_⟩
   have : l' = l ++ be size n:=by simpa [be] using hl'
   rw [← this]
   exact hp
end Go.Proofs.YtfjlmkifiihgkaaGreatDoor
namespace Go.Proofs.YtfjlmkifiihgkaaGreatDoor
open Go Go.AM Go.Proofs
variable {Γ : Nat→List AV}
theorem number_bad (s0 s : AS) (p : Nat) (l : List UInt8) (n size : Int) (hs : 0≤size∧size≤8) (h : Pen s0 s p l true) :
  ACalls Tryz.prog Γ 195 [.ptr p 0,.v (.int .u64 n),.v (.int .i64 size)] s (fun r s'=>r = .tup []∧Pen s0 s' p l true):=by
 refine acalls_body Tryz.func195 rfl Tryz.ntmps195 Tryz.results195 (by simp) ?_
 obtain ⟨x,hx,hb⟩:=h.obj
 have hsub : isub .i64 size 1 = size - 1:=isub_i64 (by omega)
 refine jB @hsub ?_
 refine awp_block ?_
 refine awp_loop (fun E s1=>E 6 = .v (.int .i64 (size - 1))∧E 0 = .ptr p 0∧s1 = s) (fun _ _=>0) ?_ ?_
 ·exact ⟨by simp [upd],by simp [upd,initE],rfl⟩
 ·rintro E1 s1 ⟨h6,h0,rfl⟩ -
  refine wK fun K hK=>?_
  by_cases hi : 0≤size - 1
  ·refine jB (Ai @h6 (Ai @h0 (Ai @hx (decide_eq_true hi)))) ?_
   refine jF ?_
   refine awp_exit ?_
   simp only [thenQ,blockQ,if_true,retQ,AEnds,aresL,atuple,List.toList_toArray]
   exact ⟨_,s1,AV.weak.refl _,AS.le.refl _,rfl,h⟩
  ·refine jB (Ai @h6 (Ai @h0 (Ai @hx (decide_eq_false hi)))) ?_
   refine jF ?_
   refine awp_exit ?_
   simp only [thenQ,blockQ,if_true,retQ,AEnds,aresL,atuple,List.toList_toArray]
   exact ⟨_,s1,AV.weak.refl _,AS.le.refl _,rfl,h⟩
theorem number_any (s0 s : AS) (p : Nat) (st : List UInt8 × Bool) (n size : Nat) (hn : n < 2 ^ 64) (hs : size≤8) (hl : st.1.length + 8≤2 ^ 45) (h : PenS s0 s p st) :
  ACalls Tryz.prog Γ 195 [.ptr p 0,.v (.int .u64 n),.v (.int .i64 size)] s (fun r s'=>r = .tup []∧PenS s0 s' p (penNum size n st)):=by
 obtain ⟨l,b⟩:=st
 cases b
 ·exact number_calls s0 s p l n size hn hs hl h
 ·exact number_bad s0 s p l n size (by omega) h
theorem new_calls (s : AS) : ACalls Tryz.prog Γ 109 [] s (fun r s'=>∃ p,r = .ptr p 0∧PenS s s' p ([],false)):=by
 refine acalls_body Tryz.func109 rfl Tryz.ntmps109 Tryz.results109 (by simp) ?_
 refine jA ?_
 refine wS fun K hK=>?_
 simp only [↓DN,Qa,Qb,Qc,Qd,Qe,Qf,Qg,Qh,reduceCtorEq,↓reduceIte,Na,Nb,Nc,Nk,Nf,Ng,Nh,Za,Zb,Zc,TT,Array.toList_empty]
 intro p hp
 refine hK _ _ ?_
 refine awp_ret ?_
 simp only [↓DN,Qa,Qb,Qc,Qd,Qe,Qf,Qg,Qh,reduceCtorEq,↓reduceIte,Na,Nb,Nc,Nk,Nf,Ng,Nh,Za,Zb,Zc,TT,retQ,AEnds,aresL,ares,atuple]
 exact ⟨_,_,AV.weak.refl _,AS.le.refl _,p,rfl,AS.le_set (AS.le.refl s) hp _,hp,_,AS.set_objs_same _ _ _,.inl ⟨rfl,rfl⟩⟩
theorem small_calls (s0 s : AS) (p : Nat) (st : List UInt8 × Bool) (n : Int) (size : Nat) (hn : -9223372036854775808≤n∧n≤9223372036854775807) (hs : size≤8) (hl : st.1.length + 8≤2 ^ 45) (h : PenS s0 s p st) :
  ACalls Tryz.prog Γ 229 [.ptr p 0,.v (.int .i64 n),.v (.int .i64 size)] s (fun r s'=>r = .tup []∧PenS s0 s' p (penSmall size n st)):=by
 refine acalls_body Tryz.func229 rfl Tryz.ntmps229 Tryz.results229 (by simp) ?_
 obtain ⟨x,hx,hb⟩:=h.obj
 refine wK fun K hK=>?_
 have hmul : imul .i64 8 (size : Int) = 8 * size:=imul_i64 (by omega)
 have hnn : ¬ (8 * (size : Int) < 0):=by omega
 by_cases h0 : n < 0
 ·refine jB (decide_eq_true h0) ?_
  refine jE ?_
  refine jB @hx ?_
  refine awp_ret ?_
  simp only [thenQ,retQ,AEnds,aresL,atuple,List.toList_toArray]
  refine ⟨_,_,AV.weak.refl _,AS.le.refl _,rfl,?_⟩
  have : penSmall size n st = (st.1,true):=by unfold penSmall; rw [if_neg (by omega)]
  rw [this]
  exact h.bad hx hb true
 ·by_cases h1 : 2 ^ (8 * size)≤n
  ·refine jB (Ai (decide_eq_false h0) (Ai @hmul (Ai @hnn (Ai (shr_small n size (by omega) (by omega)) (decide_eq_true h1))))) ?_
   refine jE ?_
   refine jB @hx ?_
   refine awp_ret ?_
   simp only [thenQ,retQ,AEnds,aresL,atuple,List.toList_toArray]
   refine ⟨_,_,AV.weak.refl _,AS.le.refl _,rfl,?_⟩
   have : penSmall size n st = (st.1,true):=by unfold penSmall; rw [if_neg (by omega)]
   rw [this]
   exact h.bad hx hb true
  ·refine jB (Ai (decide_eq_false h0) (Ai @hmul (Ai @hnn (Ai (shr_small n size (by omega) (by omega)) (decide_eq_false h1))))) ?_
   refine jF ?_
   refine awp_skip ?_
   refine hK _ _ ?_;clear hK K
   obtain ⟨m,rfl⟩:=Int.eq_ofNat_of_zero_le (Int.not_lt.1 h0)
   have hconv : iconv .u64 (m : Int) = m:=iconv_u64_nat m (by omega)
   refine jU @hconv fun K hK=>?_
   refine acallk (number_any s0 s p st m size (by omega) hs hl h) ?_
   rintro r s' ⟨rfl,hp⟩
   refine jR hK ?_;clear hK K
   simp only [retQ,AEnds,aresL,atuple,List.toList_toArray]
   refine ⟨_,_,AV.weak.refl _,AS.le.refl _,rfl,?_⟩
   have : penSmall size m st = penNum size m st:=by unfold penSmall; rw [if_pos (by omega)]; rfl
   rw [this]
   exact hp
end Go.Proofs.YtfjlmkifiihgkaaGreatDoor
namespace Go.Proofs.YtfjlmkifiihgkaaGreatDoor
open Go Go.AM Go.Proofs
variable {Γ : Nat→List AV}
theorem penU8_calls (s0 s : AS) (p : Nat) (st : List UInt8 × Bool) (n : Int) (hn : -9223372036854775808≤n∧n≤9223372036854775807) (hl : st.1.length + 8≤2 ^ 45) (h : PenS s0 s p st) :
  ACalls Tryz.prog Γ 168 [.ptr p 0,.v (.int .i64 n)] s (fun r s'=>r = .tup []∧PenS s0 s' p (penSmall 1 n st)):=by
 refine acalls_body Tryz.func168 rfl Tryz.ntmps168 Tryz.results168 (by simp) ?_
 refine jT fun K hK=>?_
 refine acallk (small_calls s0 s p st n 1 hn (by omega) hl h) ?_
 rintro r s' ⟨rfl,hp⟩
 refine jR hK ?_;clear hK K
 simp only [retQ,AEnds,aresL,ares,List.toList_toArray,↓upd_same]; try simp only [UP,DF,Nc,↓reduceIte,DT]
 exact ⟨_,_,AV.weak.refl _,AS.le.refl _,rfl,hp⟩
theorem penU32_calls (s0 s : AS) (p : Nat) (st : List UInt8 × Bool) (n : Int) (hn : -9223372036854775808≤n∧n≤9223372036854775807) (hl : st.1.length + 8≤2 ^ 45) (h : PenS s0 s p st) :
  ACalls Tryz.prog Γ 215 [.ptr p 0,.v (.int .i64 n)] s (fun r s'=>r = .tup []∧PenS s0 s' p (penSmall 4 n st)):=by
 refine acalls_body Tryz.func215 rfl Tryz.ntmps215 Tryz.results215 (by simp) ?_
 refine jT fun K hK=>?_
 refine acallk (small_calls s0 s p st n 4 hn (by omega) hl h) ?_
 rintro r s' ⟨rfl,hp⟩
 refine jR hK ?_;clear hK K
 simp only [retQ,AEnds,aresL,ares,List.toList_toArray,↓upd_same]; try simp only [UP,DF,Nc,↓reduceIte,DT]
 exact ⟨_,_,AV.weak.refl _,AS.le.refl _,rfl,hp⟩
theorem penU64_calls (s0 s : AS) (p : Nat) (st : List UInt8 × Bool) (n : Nat) (hn : n < 2 ^ 64) (hl : st.1.length + 8≤2 ^ 45) (h : PenS s0 s p st) :
  ACalls Tryz.prog Γ 111 [.ptr p 0,.v (.int .u64 n)] s (fun r s'=>r = .tup []∧PenS s0 s' p (penNum 8 n st)):=by
 refine acalls_body Tryz.func111 rfl Tryz.ntmps111 Tryz.results111 (by simp) ?_
 refine jT fun K hK=>?_
 refine acallk (number_any s0 s p st n 8 hn (by omega) hl h) ?_
 rintro r s' ⟨rfl,hp⟩
 refine jR hK ?_;clear hK K
 simp only [retQ,AEnds,aresL,ares,List.toList_toArray,↓upd_same]; try simp only [UP,DF,Nc,↓reduceIte,DT]
 exact ⟨_,_,AV.weak.refl _,AS.le.refl _,rfl,hp⟩
theorem penRaw_calls (s0 s : AS) (p : Nat) (st : List UInt8 × Bool) (b : AV) (m : List UInt8) (hb : IsB b m) (hl : st.1.length + m.length≤2 ^ 45) (h : PenS s0 s p st) :
  ACalls Tryz.prog Γ 241 [.ptr p 0,b] s (fun r s'=>r = .tup []∧PenS s0 s' p (penRaw m st)):=by
 obtain ⟨l,bad⟩:=st
 obtain ⟨x,hx,hbuf⟩:=h.obj
 refine acalls_body Tryz.func241 rfl Tryz.ntmps241 Tryz.results241 (by simp) ?_
 cases bad
 ·refine jB @hx ?_
  refine jE ?_
  have hraw : penRaw m (l,false) = (l ++ m,false):=rfl
  by_cases hm : m.length = 0
  ·have hm0 : m = []:=List.eq_nil_of_length_eq_zero hm
   subst hm0
   have e : (l ++ [],false) = (l,false):=by simp
   rw [hraw,e]
   rcases hbuf with ⟨rfl,hl0⟩ | ⟨t,e,rfl,ht,ht0⟩
   ·simp only at hl0
    subst hl0
    rcases hb with ⟨rfl,_⟩ | ⟨sp,rfl⟩
    ·refine wE fun K hK=>?_
     simp only [↓DN,Qa,Qb,Qc,Qd,Qe,Qf,Qg,Qh,reduceCtorEq,↓reduceIte,Na,Nb,Nc,Nk,Nf,Ng,Nh,Za,Zb,Zc,TT,hx,nilS,bytesV,hm]
     refine hK _ _ ?_;clear hK K
     simp only [retQ,AEnds,aresL,ares,List.toList_toArray,↓upd_same]; try simp only [UP,DF,Nc,↓reduceIte,DT]
     exact ⟨_,_,AV.weak.refl _,AS.le.refl _,rfl,h.bad hx (.inl ⟨rfl,rfl⟩) false⟩
    ·refine wE fun K hK=>?_
     simp only [↓DN,Qa,Qb,Qc,Qd,Qe,Qf,Qg,Qh,reduceCtorEq,↓reduceIte,Na,Nb,Nc,Nk,Nf,Ng,Nh,Za,Zb,Zc,TT,hx,nilS,bytesV,hm]
     refine hK _ _ ?_;clear hK K
     simp only [retQ,AEnds,aresL,ares,List.toList_toArray,↓upd_same]; try simp only [UP,DF,Nc,↓reduceIte,DT]
     exact ⟨_,_,AV.weak.refl _,AS.le.refl _,rfl,h.bad hx (.inl ⟨rfl,rfl⟩) false⟩
   ·rcases hb with ⟨rfl,_⟩ | ⟨sp,rfl⟩
    ·refine wE fun K hK=>?_
     simp only [↓DN,Qa,Qb,Qc,Qd,Qe,Qf,Qg,Qh,reduceCtorEq,↓reduceIte,Na,Nb,Nc,Nk,Nf,Ng,Nh,Za,Zb,Zc,TT,hx,nilS,bytesV,hm]
     refine hK _ _ ?_;clear hK K
     simp only [retQ,AEnds,aresL,ares,List.toList_toArray,↓upd_same]; try simp only [UP,DF,Nc,↓reduceIte,DT]
     exact ⟨_,_,AV.weak.refl _,AS.le.refl _,rfl,h.bad hx (.inr ⟨t,e,rfl,ht,ht0⟩) false⟩
    ·refine wE fun K hK=>?_
     simp only [↓DN,Qa,Qb,Qc,Qd,Qe,Qf,Qg,Qh,reduceCtorEq,↓reduceIte,Na,Nb,Nc,Nk,Nf,Ng,Nh,Za,Zb,Zc,TT,hx,nilS,bytesV,hm]
     refine hK _ _ ?_;clear hK K
     simp only [retQ,AEnds,aresL,ares,List.toList_toArray,↓upd_same]; try simp only [UP,DF,Nc,↓reduceIte,DT]
     exact ⟨_,_,AV.weak.refl _,AS.le.refl _,rfl,h.bad hx (.inr ⟨t,e,rfl,ht,ht0⟩) false⟩
  ·have hb' : ∃ sp,b = bytesV m sp:=by
    rcases hb with ⟨_,rfl⟩ | hb
    ·exact absurd rfl hm
    ·exact hb
   obtain ⟨sp,rfl⟩:=hb'
   rw [hraw]
   simp only at hl
   rcases hbuf with ⟨rfl,hl0⟩ | ⟨t,e,rfl,ht,ht0⟩
   ·simp only at hl0
    subst hl0
    refine wE fun K hK=>?_
    simp only [↓DN,Qa,Qb,Qc,Qd,Qe,Qf,Qg,Qh,reduceCtorEq,↓reduceIte,Na,Nb,Nc,Nk,Nf,Ng,Nh,Za,Zb,Zc,TT,hx,nilS,bytesV,hm]
    refine ⟨by omega,by omega,fun t ht=>hK _ _ ?_⟩
    clear hK K
    simp only [retQ,AEnds,aresL,ares,List.toList_toArray,↓upd_same]; try simp only [UP,DF,Nc,↓reduceIte,DT]
    exact ⟨_,_,AV.weak.refl _,AS.le.refl _,rfl,h.put_one ht m⟩
   ·refine jU (Ai @hx (Ai @bytesV.eq_1 (Ai @hm @ht))) fun K hK=>?_
    refine ⟨by omega,by omega,hK _ _ ?_⟩
    clear hK K
    simp only [retQ,AEnds,aresL,ares,List.toList_toArray,↓upd_same]; try simp only [UP,DF,Nc,↓reduceIte,DT]
    exact ⟨_,_,AV.weak.refl _,AS.le.refl _,rfl,h.more ht0 m rfl rfl⟩
 ·refine jB @hx ?_
  refine jF ?_
  refine awp_skip ?_
  simp only [retQ,AEnds,aresL,ares,List.toList_toArray,↓upd_same]; try simp only [UP,DF,Nc,↓reduceIte,DT]
  exact ⟨_,_,AV.weak.refl _,AS.le.refl _,rfl,h⟩
theorem penText_calls (s0 s : AS) (p : Nat) (st : List UInt8 × Bool) (b : AV) (m : List UInt8) (k : Nat) (hk : k≤8) (hb : IsB b m) (hl : st.1.length + m.length + 8≤2 ^ 45) (h : PenS s0 s p st) :
  ACalls Tryz.prog Γ 194 [.ptr p 0,b,.v (.int .i64 k)] s (fun r s'=>r = .tup []∧PenS s0 s' p (penText k m st)):=by
 refine acalls_body Tryz.func194 rfl Tryz.ntmps194 Tryz.results194 (by simp) ?_
 have hlen : (penSmall k m.length st).1.length≤st.1.length + k:=penSmall_len ..
 rcases hb with ⟨rfl,rfl⟩ | ⟨sp,rfl⟩
 ·refine wS fun K hK=>?_
  simp only [↓DN,Qa,Qb,Qc,Qd,Qe,Qf,Qg,Qh,reduceCtorEq,↓reduceIte,Na,Nb,Nc,Nk,Nf,Ng,Nh,Za,Zb,Zc,TT,nilS,List.length_nil]
  refine acallk (small_calls s0 s p st 0 k (by omega) hk (by omega) h) ?_
  rintro r s' ⟨rfl,hp⟩
  refine jR hK ?_;clear hK K
  refine jT fun K hK=>?_
  refine acallk (penRaw_calls s0 s' p _ nilS [] IsB.nil (by have:=penSmall_len k 0 st; simp at this hl ⊢; omega) hp) ?_
  rintro r s'' ⟨rfl,hp'⟩
  refine jR hK ?_;clear hK K
  simp only [retQ,AEnds,aresL,ares,List.toList_toArray,↓upd_same]; try simp only [UP,DF,Nc,↓reduceIte,DT]
  exact ⟨_,_,AV.weak.refl _,AS.le.refl _,rfl,hp'⟩
 ·refine jS @bytesV.eq_1 fun K hK=>?_
  refine acallk (small_calls s0 s p st m.length k (by omega) hk (by omega) h) ?_
  rintro r s' ⟨rfl,hp⟩
  refine jR hK ?_;clear hK K
  refine jT fun K hK=>?_
  refine acallk (penRaw_calls s0 s' p _ (bytesV m sp) m (IsB.mk m sp) (by simp only [List.length_nil] at *; omega) hp) ?_
  rintro r s'' ⟨rfl,hp'⟩
  refine jR hK ?_;clear hK K
  simp only [retQ,AEnds,aresL,ares,List.toList_toArray,↓upd_same]; try simp only [UP,DF,Nc,↓reduceIte,DT]
  exact ⟨_,_,AV.weak.refl _,AS.le.refl _,rfl,hp'⟩
theorem penShort_calls (s0 s : AS) (p : Nat) (st : List UInt8 × Bool) (b : AV) (m : List UInt8) (hb : IsB b m) (hl : st.1.length + m.length + 8≤2 ^ 45) (h : PenS s0 s p st) :
  ACalls Tryz.prog Γ 110 [.ptr p 0,b] s (fun r s'=>r = .tup []∧PenS s0 s' p (penText 1 m st)):=by
 refine acalls_body Tryz.func110 rfl Tryz.ntmps110 Tryz.results110 (by simp) ?_
 refine jT fun K hK=>?_
 refine acallk (penText_calls s0 s p st b m 1 (by omega) hb hl h) ?_
 rintro r s' ⟨rfl,hp⟩
 refine jR hK ?_;clear hK K
 simp only [retQ,AEnds,aresL,ares,List.toList_toArray,↓upd_same]; try simp only [UP,DF,Nc,↓reduceIte,DT]
 exact ⟨_,_,AV.weak.refl _,AS.le.refl _,rfl,hp⟩
theorem clone_nil (s : AS) : ACalls Tryz.prog Γ 184 [nilS] s (fun r s'=>r = bytesV [] .any∧s' = s):=by
 refine acalls_body Tryz.func184 rfl Tryz.ntmps184 Tryz.results184 (by simp) ?_
 unfold nilS
 refine jA ?_
 refine wK fun K hK=>?_
 refine jA ?_
 refine jE ?_
 refine jA ?_
 refine jI ?_
 exact ⟨_,_,AV.weak_nil,AS.le.refl _,rfl,rfl⟩
theorem penBytes_calls (s0 s : AS) (p : Nat) (st : List UInt8 × Bool) (hl : st.1.length≤2 ^ 45) (h : PenS s0 s p st) :
  ACalls Tryz.prog Γ 113 [.ptr p 0] s (fun r s'=>r = .tup [bytesV (if st.2 = true then [] else st.1) .any,.v (.bool !st.2)]∧s' = s):=by
 obtain ⟨l,bad⟩:=st
 obtain ⟨x,hx,hbuf⟩:=h.obj
 refine acalls_body Tryz.func113 rfl Tryz.ntmps113 Tryz.results113 (by simp) ?_
 simp only at hx hl hbuf
 refine jA ?_
 refine wK fun K hK=>?_
 cases bad
 ·refine jB @hx ?_
  refine jF ?_
  refine awp_skip ?_
  refine hK _ _ ?_;clear hK K
  rcases hbuf with ⟨rfl,hl0⟩ | ⟨t,e,rfl,ht,ht0⟩
  ·subst hl0
   refine jS @hx fun K hK=>?_
   refine acallk (clone_nil s) ?_
   rintro r s' ⟨rfl,rfl⟩
   refine jR hK ?_;clear hK K
   exact jJ
  ·refine jS @hx fun K hK=>?_
   refine acallk (clone_calls l _ rfl s hl) ?_
   rintro r s' ⟨rfl,rfl⟩
   refine jR hK ?_;clear hK K
   exact jJ
 ·refine jB @hx ?_
  refine jE ?_
  refine jA ?_
  refine jI ?_
  exact ⟨_,_,AV.weak_tup2 AV.weak_nil (AV.weak.refl _),AS.le.refl _,rfl,rfl⟩
end Go.Proofs.YtfjlmkifiihgkaaGreatDoor
namespace Go.Proofs.YtfjlmkifiihgkaaGreatDoor
open Go Go.AM Go.Proofs
variable {Γ : Nat→List AV}
theorem n256 : ((256 : Int) = 0) = False:=by simp
theorem num_byte (q : Nat) : iconv .u8 (irem (q : Int) 256) = ((UInt8.ofNat q).toNat : Int):=by
 rw [show (256 : Int) = ((256 : Nat) : Int) from rfl,irem_u,iconv_u rfl]
 simp [IntKind.bits]
theorem num_quo (n i : Nat) (h : n < 2 ^ 64) : iquo .u64 ((n / 256 ^ i : Nat) : Int) 256 = ((n / 256 ^ (i + 1) : Nat) : Int):=by
 have hq : n / 256 ^ i < 2 ^ IntKind.u64.bits:=Nat.lt_of_le_of_lt (Nat.div_le_self _ _) h
 have:=iquo_u (k:=.u64) rfl (n / 256 ^ i) 256 hq
 rw [show (256 : Int) = ((256 : Nat) : Int) from rfl,this,Nat.div_div_eq_div_mul,Nat.pow_succ]
theorem byte_one (c : UInt8) : toBytes [AV.v (.int .u8 (c.toNat : Int))] = ByteArray.mk [c].toArray:=toBytes_map [c]
theorem byte_is (c : UInt8) : isByte (AV.v (.int .u8 (c.toNat : Int))) = true:=rfl
theorem refNumber_calls (n size : Nat) (hn : n < 2 ^ 64) (hs : size≤8) (s : AS) :
  ACalls Tryz.prog Γ 150 [.v (.int .u64 n),.v (.int .i64 size)] s (fun r s'=>r = .v (.string ⟨(be size n).toArray⟩)∧s' = s):=by
 refine acalls_body Tryz.func150 rfl Tryz.ntmps150 Tryz.results150 (by simp) ?_
 refine jA ?_
 refine jA ?_
 refine wK fun K hK=>?_
 refine jA ?_
 refine awp_block ?_
 refine awp_loop (fun E s1=>∃ i : Nat,i≤size∧E 6 = .v (.int .i64 i)∧E 1 = .v (.int .i64 size)∧E 0 = .v (.int .u64 (n / 256 ^ i : Nat))∧E 5 = .v (.string ⟨(be i n).toArray⟩)∧s1 = s)
  (fun E _=>match E 6 with | .v (.int _ i)=>size - i.toNat | _=>0) ?_ ?_
 ·exact ⟨0,Nat.zero_le _,by simp [upd],by simp [upd,initE],by simp [upd,initE],by simp [upd,be],rfl⟩
 ·rintro E1 s1 ⟨i,hi,h6,h1,h0,h5,rfl⟩ -
  refine wK fun K2 hK2=>?_
  by_cases hi' : i < size
  ·refine jB (Ai @h6 (Ai @h1 (Ai @eye_lt_nat (decide_eq_true hi')))) ?_
   refine jE ?_
   refine awp_skip ?_
   refine hK2 _ _ ?_;clear hK2 K2
   refine wK fun K3 hK3=>?_
   refine awp_block ?_
   refine wS fun K hK=>?_
   simp only [↓DN,Qa,Qb,Qc,Qd,Qe,Qf,Qg,Qh,reduceCtorEq,↓reduceIte,Na,Nb,Nc,Nk,Nf,Ng,Nh,Za,Zb,Zc,TT,h0,h5,n256,num_byte,byte_one,byte_is,List.replicate_succ,bs_size,bs_append,length_be,i64_room (show 1 + i < 2 ^ 62 by omega)]
   refine hK _ _ ?_;clear hK K
   refine jD (Ai @h0 (Ai @n256 (num_quo n i hn))) ?_
   simp only [blockQ,thenQ,if_true,if_false]
   refine hK3 _ _ ?_;clear hK3 K3
   refine jD (Ai @h6 (eye_succ i (by omega))) ?_
   refine ⟨⟨i + 1,by omega,by simp only [upd,↓reduceIte],by simp only [upd,h1,Nc,↓reduceIte],by simp only [upd,Nc,↓reduceIte],?_,rfl⟩,?_⟩
   ·simp only [upd,Nc,↓reduceIte,be,show 2 ^ (8 * i) = 256 ^ i from by rw [Nat.pow_mul]]
   ·simp only [h6,upd,↓reduceIte]
    omega
  ·refine jB (Ai @h6 (Ai @h1 (Ai @eye_lt_nat (decide_eq_false hi')))) ?_
   refine jF ?_
   refine awp_exit ?_
   simp only [thenQ,blockQ,if_true]
   refine hK _ _ ?_;clear hK hK2 K K2
   refine jB @h5 ?_
   refine jI ?_
   obtain rfl : i = size:=by omega
   exact ⟨_,_,AV.weak.refl _,AS.le.refl _,rfl,rfl⟩
theorem u64_len (n : Nat) (h : n < 2 ^ 63) : iconv .u64 (n : Int) = n:=iconv_u64_nat n (by omega)
theorem refText_calls (l : List UInt8) (size : Nat) (hl : l.length < 2 ^ 61) (hs : size≤8) (s : AS) :
  ACalls Tryz.prog Γ 119 [.v (.string ⟨l.toArray⟩),.v (.int .i64 size)] s (fun r s'=>r = .v (.string ⟨(be size l.length ++ l).toArray⟩)∧s' = s):=by
 refine acalls_body Tryz.func119 rfl Tryz.ntmps119 Tryz.results119 (by simp) ?_
 refine jA ?_
 refine jS (Ai @bs_size (u64_len l.length (by omega))) fun K hK=>?_
 refine acallk (refNumber_calls l.length size (by omega) hs s) ?_
 rintro r s' ⟨rfl,rfl⟩
 refine jV (Ai @bs_size (Ai @bs_append (Ai @length_be (i64_room (show size + l.length < 2 ^ 62 by omega))))) hK ?_;clear hK K
 exact jJ
end Go.Proofs.YtfjlmkifiihgkaaGreatDoor
