/- Contracts of the program's functions, each walked once; the conditions stand in each theorem. -/
import Derived.Test.YtfjlmkifiihgkaaGreatDoorAMp6
import Derived.Test.YtfjlmkifiihgkaaGreatDoorW1
import Derived.Test.YtfjlmkifiihgkaaGreatDoorAMp4
import Derived.Test.YtfjlmkifiihgkaaGreatDoorAMp3
import Derived.Test.YtfjlmkifiihgkaaGreatDoorAMp5
set_option linter.unusedSimpArgs false
set_option linter.unusedVariables false
open Nat renaming reduceLT → Na, reduceLeDiff → Nb, reduceEqDiff → Nc, reduceAdd → Nk, reduceMul → Nf, reducePow → Ng, reduceSub → Nh, reduceBEq → Nz
open Int renaming reduceLT → Za, reduceLE → Zb, reduceToNat → Zc
open And renaming intro → Ai
open Go.AM renaming ashift → Qa, aconv → Qb, aindexAddr → Qc, aindex → Qd, aslice → Qe, abuiltin → Qf, awp_reg_seq → wS, awp_reg_end → wE, awp_seq_k → wK, awp_cond_k → wC
open Go.AM.AV renaming cells → Qg, one → Qh
set_option maxRecDepth 100000
set_option maxHeartbeats 8000000
set_option autoImplicit false
namespace Go.Proofs.YtfjlmkifiihgkaaGreatDoor
open Go Go.AM Go.Proofs
variable {Γ : Nat→List AV}
theorem refUnder18_calls (x : Int) (s : AS) : ACalls Tryz.prog Γ 73 [.v (.int .i64 x)] s (fun r s'=>r = .tup [.v (.int .i64 (undI x).1),.v (.int .i64 (undI x).2)]∧s' = s):=by
 refine acalls_body Tryz.func73 rfl Tryz.ntmps73 Tryz.results73 (by simp) ?_
 refine jA ?_
 refine wK fun K hK=>?_
 by_cases h : 0≤x∧x < 63
 ·obtain ⟨n,rfl⟩:=Int.eq_ofNat_of_zero_le h.1
  have hn : n < 63:=by omega
  have h1 : decide ((62 : Int) < (n : Int)) = false:=decide_eq_false (by omega)
  have hund : undI (n : Int) = ((lo n : Int),(hi n : Int)):=if_pos h
  refine jB (Ai @negF @h1) ?_
  refine jF ?_
  refine awp_skip ?_
  refine hK _ _ ?_;clear hK K
  refine jA ?_
  refine wK fun K hK=>?_
  refine awp_block ?_
  refine awp_loop (fun E s2=>∃ (m : Nat),m < 63∧lo m = lo n∧E 4 = .v (.int .i64 m)∧E 5 = .v (.int .i64 n)∧s2 = s)
   (fun E _=>match E 4 with | .v (.int _ i)=>lvI i | _=>0) ?_ ?_
  ·exact ⟨n,hn,rfl,by simp only [upd,initE,List.getD_cons_zero,List.getD_cons_succ,Nc,↓reduceIte],by simp only [upd,initE,List.getD_cons_zero,List.getD_cons_succ,Nc,↓reduceIte],rfl⟩
  ·rintro E1 s2 ⟨m,hm,hlo,g4,g5,rfl⟩ -
   refine wK fun K2 hK2=>?_
   refine jS @g4 fun K hK=>?_
   refine acallk (refLevel18_calls m _) ?_
   rintro r s3 ⟨rfl,rfl⟩
   rw [lvI_nat hm]
   by_cases hz : lv m = 0
   ·refine jR hK ?_;clear hK K
    refine wC fun X Y hX hY=>?_
    simp only [↓DN,Qa,Qb,Qc,Qd,Qe,Qf,Qg,Qh,reduceCtorEq,↓reduceIte,Na,Nb,Nc,Nk,Nf,Ng,Nh,Za,Zb,Zc,TT,DB,eq_false (show ¬ (0 : Int) < ((lv m : Nat) : Int) by omega),not_false_eq_true]
    refine hY ?_;clear hX hY X Y
    refine awp_exit ?_
    simp only [thenQ,blockQ,if_true]
    refine hK _ _ ?_;clear hK hK2 K2 K
    have hL:=(lo_leaf m hm hz).1
    refine wK fun K hK=>?_
    refine awp_block ?_
    refine awp_loop (fun E s4=>∃ (m' : Nat),m' < 63∧hi m' = hi n∧E 5 = .v (.int .i64 m')∧E 4 = .v (.int .i64 m)∧s4 = s3)
     (fun E _=>match E 5 with | .v (.int _ i)=>lvI i | _=>0) ?_ ?_
    ·exact ⟨n,hn,rfl,by simp only [upd,g5,Nc,↓reduceIte],by simp only [upd,g4,Nc,↓reduceIte],rfl⟩
    ·clear g4 g5
     rintro E2 s4 ⟨m',hm',hhi,g5,g4,rfl⟩ -
     refine wK fun K2 hK2=>?_
     refine jS @g5 fun K hK=>?_
     refine acallk (refLevel18_calls m' _) ?_
     rintro r s5 ⟨rfl,rfl⟩
     rw [lvI_nat hm']
     by_cases hz' : lv m' = 0
     ·refine jR hK ?_;clear hK K
      refine wC fun X Y hX hY=>?_
      simp only [↓DN,Qa,Qb,Qc,Qd,Qe,Qf,Qg,Qh,reduceCtorEq,↓reduceIte,Na,Nb,Nc,Nk,Nf,Ng,Nh,Za,Zb,Zc,TT,DB,eq_false (show ¬ (0 : Int) < ((lv m' : Nat) : Int) by omega),not_false_eq_true]
      refine hY ?_;clear hX hY X Y
      refine awp_exit ?_
      simp only [thenQ,blockQ,if_true]
      refine hK _ _ ?_;clear hK hK2 K2 K
      have hH:=(lo_leaf m' hm' hz').2
      refine jB (Ai @g4 (Ai @g5 (Ai (iquo_nat m (by omega)) (iquo_nat m' (by omega))))) ?_
      refine jI ?_
      rw [← hL,← hH,hlo,hhi,hund]
      exact ⟨_,_,AV.weak.refl _,AS.le.refl _,rfl,rfl⟩
     ·obtain ⟨w1,w2,w3⟩:=hi_step m' hm' hz'
      refine jR hK ?_;clear hK K
      refine wC fun X Y hX hY=>?_
      simp only [↓DN,Qa,Qb,Qc,Qd,Qe,Qf,Qg,Qh,reduceCtorEq,↓reduceIte,Na,Nb,Nc,Nk,Nf,Ng,Nh,Za,Zb,Zc,TT,DB,eq_true (show (0 : Int) < ((lv m' : Nat) : Int) by omega),not_true_eq_false]
      refine hX ?_;clear hX hY X Y
      refine awp_skip ?_
      refine hK2 _ _ ?_;clear hK2 K2
      refine awp_block ?_
      have hkid : kidsI (m' : Int) = some (((m' : Int) - (hf m' : Int)),((m' + hf m' : Nat) : Int)):=by
       unfold kidsI
       rw [lvI_nat hm',if_neg hz']
       unfold hf
       congr 2
      refine jU @g5 fun K hK=>?_
      refine acallk (refKids18_calls m' (by omega) _) ?_
      rintro r s6 ⟨rfl,rfl⟩
      rw [hkid]
      simp only [↓DM,pval,DX,Nz,↓DN,Qa,Qb,Qc,Qd,Qe,Qf,Qg,Qh,reduceCtorEq,↓reduceIte,Na,Nb,Nc,Nk,Nf,Ng,Nh,Za,Zb,Zc,TT]
      refine hK _ _ ⟨⟨m' + hf m',w3,by rw [w1,hhi],by simp only [upd,Nc,↓reduceIte],by simp only [upd,g4,Nc,↓reduceIte],rfl⟩,?_⟩
      simp only [g5,upd,↓reduceIte]
      rw [lvI_nat hm',lvI_nat w3]
      omega
   ·obtain ⟨w1,w2,w3,w4⟩:=lo_step m hm hz
    refine jR hK ?_;clear hK K
    refine wC fun X Y hX hY=>?_
    simp only [↓DN,Qa,Qb,Qc,Qd,Qe,Qf,Qg,Qh,reduceCtorEq,↓reduceIte,Na,Nb,Nc,Nk,Nf,Ng,Nh,Za,Zb,Zc,TT,DB,eq_true (show (0 : Int) < ((lv m : Nat) : Int) by omega),not_true_eq_false]
    refine hX ?_;clear hX hY X Y
    refine awp_skip ?_
    refine hK2 _ _ ?_;clear hK2 K2
    refine awp_block ?_
    have hkid : kidsI (m : Int) = some (((m - hf m : Nat) : Int),((m : Int) + (hf m : Int))):=by
     unfold kidsI
     rw [lvI_nat hm,if_neg hz]
     unfold hf at w4 ⊢
     congr 2
     omega
    refine jU @g4 fun K hK=>?_
    refine acallk (refKids18_calls m (by omega) _) ?_
    rintro r s6 ⟨rfl,rfl⟩
    rw [hkid]
    simp only [↓DM,pval,DX,Nz,↓DN,Qa,Qb,Qc,Qd,Qe,Qf,Qg,Qh,reduceCtorEq,↓reduceIte,Na,Nb,Nc,Nk,Nf,Ng,Nh,Za,Zb,Zc,TT]
    refine hK _ _ ⟨⟨m - hf m,w3,by rw [w1,hlo],by simp only [upd,Nc,↓reduceIte],by simp only [upd,g5,Nc,↓reduceIte],rfl⟩,?_⟩
    simp only [g4,upd,↓reduceIte]
    rw [lvI_nat hm,lvI_nat w3]
    omega
 ·have hund : undI x = (0,-1):=if_neg h
  by_cases h0 : x < 0
  ·refine jB (decide_eq_true h0) ?_
   refine jE ?_
   refine jA ?_
   refine jI ?_
   rw [hund]
   exact ⟨_,_,AV.weak.refl _,AS.le.refl _,rfl,rfl⟩
  ·have h1 : (62 : Int) < x:=by omega
   refine jB (Ai (decide_eq_false h0) (decide_eq_true h1)) ?_
   refine jE ?_
   refine jA ?_
   refine jI ?_
   rw [hund]
   exact ⟨_,_,AV.weak.refl _,AS.le.refl _,rfl,rfl⟩
end Go.Proofs.YtfjlmkifiihgkaaGreatDoor
namespace Go.Proofs.YtfjlmkifiihgkaaGreatDoor
open Go Go.AM Go.Proofs
variable {Γ : Nat→List AV}
theorem clone_calls (l : List UInt8) (sp : Sp) (ha : sp.isAny = false) (s : AS) (hl : l.length≤2 ^ 45) : ACalls Tryz.prog Γ 184 [bytesV l sp] s (fun r s'=>r = bytesV l .any∧s' = s):=by
 refine acalls_body Tryz.func184 rfl Tryz.ntmps184 Tryz.results184 (by simp) ?_
 unfold bytesV
 refine jA ?_
 refine wK fun K hK=>?_
 refine jB (Ai @ha @and_false) ?_
 refine jF ?_
 refine awp_skip ?_
 refine hK _ _ ?_;clear hK K
 by_cases h0 : l.length = 0
 ·have hl0 : l = []:=List.eq_nil_of_length_eq_zero h0
  subst hl0
  refine jA ?_
  refine awp_ret ?_
  simp only [↓DN,Qa,Qb,Qc,Qd,Qe,Qf,Qg,Qh,reduceCtorEq,↓reduceIte,Na,Nb,Nc,Nk,Nf,Ng,Nh,Za,Zb,Zc,TT,retQ,AEnds,aresL,ares,atuple]
  exact ⟨_,s,AV.weak_any,AS.le.refl s,rfl,rfl⟩
 ·refine jS @h0 fun K hK=>?_
  refine ⟨by omega,by omega,fun t ht=>hK _ _ ?_⟩
  clear hK K
  refine awp_ret ?_
  simp only [↓DN,Qa,Qb,Qc,Qd,Qe,Qf,Qg,Qh,reduceCtorEq,↓reduceIte,Na,Nb,Nc,Nk,Nf,Ng,Nh,Za,Zb,Zc,TT,retQ,AEnds,aresL,ares,atuple]
  exact ⟨_,s,AV.weak_any,AS.le_gain (AS.le.refl s) ht 0,rfl,rfl⟩
end Go.Proofs.YtfjlmkifiihgkaaGreatDoor
namespace Go.Proofs.YtfjlmkifiihgkaaGreatDoor
open Go Go.AM Go.Proofs
variable {Γ : Nat→List AV}
theorem clone_nil (s : AS) : ACalls Tryz.prog Γ 184 [nilS] s (fun r s'=>r = bytesV [] .any∧s' = s):=by
 refine acalls_body Tryz.func184 rfl Tryz.ntmps184 Tryz.results184 (by simp) ?_
 unfold nilS
 refine jA ?_
 refine wK fun K hK=>?_
 refine jA ?_
 refine jE ?_
 refine jA ?_
 refine jI ?_
 exact ⟨_,_,AV.weak_nil,AS.le.refl _,rfl,rfl⟩
theorem cloneB_calls (l : List UInt8) (s : AS) (hl : l.length≤2 ^ 45) : ACalls Tryz.prog Γ 184 [bytesV l .any] s (fun r s'=>r = bytesV l .any∧s' = s) :=
 ACalls.any (pre:=[]) (post:=[]) (fun e=>by subst e; exact clone_nil s) (clone_calls l .no rfl s hl)
end Go.Proofs.YtfjlmkifiihgkaaGreatDoor
namespace Go.Proofs.YtfjlmkifiihgkaaGreatDoor
open Go Go.AM Go.Proofs
variable {Γ : Nat→List AV}
theorem open_calls (l : List UInt8) (s : AS) (hl : l.length≤2 ^ 45) : ACalls Tryz.prog Γ 100 [bytesV l .any] s (fun r s'=>∃ p,r = .ptr p 0∧EyeS s s' p (l,0)):=by
 refine acalls_body Tryz.func100 rfl Tryz.ntmps100 Tryz.results100 (by simp) ?_
 refine jA ?_
 refine jQ fun K hK=>?_
 refine acallk (cloneB_calls l s hl) ?_
 rintro r s' ⟨rfl,rfl⟩
 unfold bytesV
 simp only [↓DM,pval,DX,Nz,↓DN,Qa,Qb,Qc,Qd,Qe,Qf,Qg,Qh,reduceCtorEq,↓reduceIte,Na,Nb,Nc,Nk,Nf,Ng,Nh,Za,Zb,Zc,TT]
 intro p hp
 refine hK _ _ ?_
 refine jI ?_
 exact ⟨_,_,AV.weak.refl _,AS.le.refl _,p,rfl,AS.le_set (AS.le.refl _) hp _,hp,AS.set_objs_same _ _ _⟩
theorem next_calls (s0 s : AS) (p : Nat) (st : EyeSt) (n : Int) (h : EyeS s0 s p st) :
  ACalls Tryz.prog Γ 240 [.ptr p 0,.v (.int .i64 n)] s (fun r s'=>r = bytesV (eyeNext n st).1 .any∧EyeS s0 s' p (eyeNext n st).2):=by
 refine acalls_body Tryz.func240 rfl Tryz.ntmps240 Tryz.results240 (by simp) ?_
 obtain ⟨l,er⟩:=st
 have hx:=h.obj
 simp only [bytesV] at hx
 refine jA ?_
 refine wK fun K hK=>?_
 refine awp_block ?_
 by_cases h0 : er = 0
 ·subst h0
  refine jB (Ai @hx (i64_ne_false 0 rfl)) ?_
  refine jF ?_
  by_cases h1 : n < 0
  ·refine jB (decide_eq_true h1) ?_
   refine jE ?_
   refine jB @hx ?_
   refine jA ?_
   refine jI ?_
   rw [eyeNext_neg h1]
   exact ⟨_,_,AV.weak_nil,AS.le.refl _,rfl,h.put⟩
  ·refine jB (decide_eq_false h1) ?_
   refine jF ?_
   by_cases h2 : (l.length : Int) < n
   ·refine jB (Ai @hx (decide_eq_true h2)) ?_
    refine jE ?_
    refine jB @hx ?_
    refine jA ?_
    refine jI ?_
    rw [eyeNext_short h1 h2]
    exact ⟨_,_,AV.weak_nil,AS.le.refl _,rfl,h.put⟩
   ·obtain ⟨m,rfl⟩:=Int.eq_ofNat_of_zero_le (Int.not_lt.1 h1)
    have hml : m≤l.length:=by omega
    have hm0 : (0 : Int)≤(m : Int):=by omega
    have hml' : (m : Int)≤(l.length : Int):=by omega
    refine jB (Ai @hx (decide_eq_false h2)) ?_
    refine jF ?_
    refine awp_skip ?_
    simp only [thenQ,blockQ,if_true,if_false]
    refine hK _ _ ?_;clear hK K
    refine jB (Ai @hx (Ai @hm0 (Ai @hml' @Int.le_refl))) ?_
    refine jB (Ai @hx (Ai @hm0 (Ai @hml' @Int.le_refl))) ?_
    refine jA ?_
    refine jI ?_
    rw [eyeNext_ok hml]
    refine ⟨_,_,AV.weak.refl _,AS.le.refl _,bytes_of ?_ rfl,h.put' ?_⟩
    ·simp only [List.length_take]; omega
    ·rw [bytes_of (m:=l.drop m)]
     ·simp only [List.length_drop]
     ·rw [List.take_length]
 ·refine jB (Ai @hx (i64_ne_true er h0)) ?_
  refine jE ?_
  refine jA ?_
  refine jI ?_
  rw [eyeNext_err h0]
  exact ⟨_,_,AV.weak_nil,AS.le.refl _,rfl,h⟩
end Go.Proofs.YtfjlmkifiihgkaaGreatDoor
namespace Go.Proofs.YtfjlmkifiihgkaaGreatDoor
open Go Go.AM Go.Proofs
variable {Γ : Nat→List AV}
theorem eyeNumber_calls (s0 s : AS) (p : Nat) (st : EyeSt) (size : Nat) (hs : size≤8) (h : EyeS s0 s p st) :
  ACalls Tryz.prog Γ 186 [.ptr p 0,.v (.int .i64 size)] s (fun r s'=>r = .v (.int .u64 (eyeNum size st).1)∧EyeS s0 s' p (eyeNum size st).2):=by
 refine acalls_body Tryz.func186 rfl Tryz.ntmps186 Tryz.results186 (by simp) ?_
 obtain ⟨out,hout⟩ : ∃ out,out = (eyeNext size st).1:=⟨_,rfl⟩
 have hlen : out.length≤8:=by rw [hout]; exact Nat.le_trans (eyeNext_le _ _) hs
 refine jA ?_
 refine jA ?_
 refine wK fun K hK=>?_
 refine jQ fun K hK=>?_
 refine acallk (next_calls s0 s p st size h) ?_
 rintro r s2 ⟨rfl,he⟩
 rw [← hout]
 unfold bytesV
 refine jR hK ?_;clear hK K
 refine awp_block ?_
 refine awp_loop (fun E s3=>∃ j y : Nat,j≤out.length∧E 10 = .sl 1 out.length (out.map byteV) .any∧E 11 = .v (.int .i64 out.length)∧E 12 = .v (.int .i64 j)∧E 5 = .v (.int .u64 y)∧y = beNat (out.take j)∧s3 = s2)
  (fun E _=>match E 12 with | .v (.int _ j)=>out.length - j.toNat | _=>0) ?_ ?_
 ·exact ⟨0,0,Nat.zero_le _,by simp only [upd,Nc,↓reduceIte],by simp only [upd,Nc,↓reduceIte],by simp only [upd,↓reduceIte]; rfl,by simp only [upd,Nc,↓reduceIte]; rfl,rfl,rfl⟩
 ·rintro E3 s3 ⟨j,y,hj,f10,f11,f12,f5,hy,rfl⟩ -
  by_cases hj' : j < out.length
  ·have hy7 : y < 2 ^ 56:=by
    rw [hy]
    refine Nat.lt_of_lt_of_le (beNat_take_lt out j) ?_
    rw [show (2 : Nat) ^ 56 = 256 ^ 7 from by decide]
    exact Nat.pow_le_pow_right (by decide) (by omega)
   have hy2 : beNat (out.take (j + 1)) = y * 256 + out[j].toNat:=by rw [List.take_succ_eq_append_getElem hj',beNat_snoc,← hy]
   have hgj : (0 : Int)≤(j : Int):=by omega
   have hat:=eat_byte hj'
   generalize hcc : out[j] = c at *
   refine jB (Ai @f11 (Ai @f12 (Ai @eye_lt_nat (decide_eq_true hj')))) ?_
   refine wK fun K5 hK5=>?_
   refine jE ?_
   refine awp_skip ?_
   refine hK5 _ _ ?_;clear hK5 K5
   refine wK fun K6 hK6=>?_
   refine awp_block ?_
   refine wS fun K hK=>?_
   simp only [↓DN,Qa,Qb,Qc,Qd,Qe,Qf,Qg,Qh,reduceCtorEq,↓reduceIte,Na,Nb,Nc,Nk,Nf,Ng,Nh,Za,Zb,Zc,TT,f10,f12,eye_lt_nat,hj',hgj,hat,byteV]
   refine hK _ _ ?_;clear hK K
   refine jD (Ai @f5 (beNat_step y c hy7)) ?_
   simp only [blockQ,thenQ,if_true,if_false]
   refine hK6 _ _ ?_;clear hK6 K6
   refine jD (Ai @f12 (eye_succ j (by omega))) ?_
   refine ⟨⟨j + 1,y * 256 + c.toNat,by omega,by simp only [upd,f10,Nc,↓reduceIte],by simp only [upd,f11,Nc,↓reduceIte],by simp only [upd,↓reduceIte],by simp only [upd,Nc,↓reduceIte],hy2.symm,rfl⟩,?_⟩
   simp only [f12,upd,↓reduceIte]
   omega
  ·refine jB (Ai @f11 (Ai @f12 (Ai @eye_lt_nat (decide_eq_false hj')))) ?_
   refine wK fun K5 hK5=>?_
   refine jF ?_
   refine awp_exit ?_
   simp only [thenQ,blockQ,if_true]
   refine hK _ _ ?_;clear hK hK5 K K5
   refine jB @f5 ?_
   refine jI ?_
   refine ⟨_,_,AV.weak.refl _,AS.le.refl _,?_,he⟩
   rw [hy,List.take_of_length_le (by omega),hout]
   rfl
end Go.Proofs.YtfjlmkifiihgkaaGreatDoor
namespace Go.Proofs.YtfjlmkifiihgkaaGreatDoor
open Go Go.AM Go.Proofs
variable {Γ : Nat→List AV}
theorem eyeRaw_calls (s0 s : AS) (p : Nat) (st : EyeSt) (n : Int) (hl : st.1.length≤2 ^ 45) (h : EyeS s0 s p st) :
  ACalls Tryz.prog Γ 239 [.ptr p 0,.v (.int .i64 n)] s (fun r s'=>r = bytesV (eyeNext n st).1 .any∧EyeS s0 s' p (eyeNext n st).2):=by
 refine acalls_body Tryz.func239 rfl Tryz.ntmps239 Tryz.results239 (by simp) ?_
 refine jA ?_
 refine jQ fun K hK=>?_
 refine acallk (next_calls s0 s p st n h) ?_
 rintro r s' ⟨rfl,he⟩
 simp only [↓DM,pval,DX,Nz,↓DN,Qa,Qb,Qc,Qd,Qe,Qf,Qg,Qh,reduceCtorEq,↓reduceIte,Na,Nb,Nc,Nk,Nf,Ng,Nh,Za,Zb,Zc,TT]
 refine acallk (cloneB_calls _ s' (by have:=(eyeNext_len n st).1; omega)) ?_
 rintro r' s'' ⟨rfl,rfl⟩
 refine jR hK ?_;clear hK K
 refine jI ?_
 exact ⟨_,_,AV.weak.refl _,AS.le.refl _,rfl,he⟩
theorem eyeU_conv (k : Nat) (hk : k≤7) (st : EyeSt) : iconv .i64 ((eyeNum k st).1 : Int) = ((eyeNum k st).1 : Int):=by
 have:=eyeNum_lt k st
 have h2 : 256 ^ k≤256 ^ 7:=Nat.pow_le_pow_right (by decide) hk
 have h3 : (256 : Nat) ^ 7 = 72057594037927936:=by decide
 exact iconv_i64 (by omega)
theorem eyeU8_calls (s0 s : AS) (p : Nat) (st : EyeSt) (h : EyeS s0 s p st) :
  ACalls Tryz.prog Γ 187 [.ptr p 0] s (fun r s'=>r = .v (.int .i64 (eyeNum 1 st).1)∧EyeS s0 s' p (eyeNum 1 st).2):=by
 refine acalls_body Tryz.func187 rfl Tryz.ntmps187 Tryz.results187 (by simp) ?_
 refine jA ?_
 refine jQ fun K hK=>?_
 refine acallk (eyeNumber_calls s0 s p st 1 (by omega) h) ?_
 rintro r s' ⟨rfl,he⟩
 refine jV (eyeU_conv 1 (by omega) st) hK ?_;clear hK K
 refine jI ?_
 exact ⟨_,_,AV.weak.refl _,AS.le.refl _,rfl,he⟩
theorem eyeU64_calls (s0 s : AS) (p : Nat) (st : EyeSt) (h : EyeS s0 s p st) :
  ACalls Tryz.prog Γ 102 [.ptr p 0] s (fun r s'=>r = .v (.int .u64 (eyeNum 8 st).1)∧EyeS s0 s' p (eyeNum 8 st).2):=by
 refine acalls_body Tryz.func102 rfl Tryz.ntmps102 Tryz.results102 (by simp) ?_
 refine jA ?_
 refine jQ fun K hK=>?_
 refine acallk (eyeNumber_calls s0 s p st 8 (by omega) h) ?_
 rintro r s' ⟨rfl,he⟩
 refine jR hK ?_;clear hK K
 refine jI ?_
 exact ⟨_,_,AV.weak.refl _,AS.le.refl _,rfl,he⟩
theorem eyeText_calls (s0 s : AS) (p : Nat) (st : EyeSt) (k : Nat) (most : Int) (hk : k≤7) (hl : st.1.length≤2 ^ 45) (h : EyeS s0 s p st) :
  ACalls Tryz.prog Γ 185 [.ptr p 0,.v (.int .i64 k),.v (.int .i64 most)] s (fun r s'=>r = bytesV (eyeText k most st).1 .any∧EyeS s0 s' p (eyeText k most st).2):=by
 refine acalls_body Tryz.func185 rfl Tryz.ntmps185 Tryz.results185 (by simp) ?_
 have hx:=h.obj
 simp only [bytesV] at hx
 refine jA ?_
 refine jB @hx ?_
 refine jQ fun K hK=>?_
 refine acallk (eyeNumber_calls s0 s p st k (by omega) h) ?_
 rintro r s' ⟨rfl,he⟩
 refine jV (eyeU_conv k hk st) hK ?_;clear hK K
 have hlen:=eyeNum_len k st
 obtain ⟨q,hq⟩ : ∃ q,eyeNum k st = q:=⟨_,rfl⟩
 rw [hq] at he hlen
 rw [hq]
 obtain ⟨num,l',er⟩:=q
 have hx':=he.obj
 simp only [bytesV] at hx' hlen
 refine wK fun K hK=>?_
 refine awp_block ?_
 by_cases h0 : er = 0
 ·subst h0
  refine jB (Ai @hx' (i64_ne_false 0 rfl)) ?_
  refine jF ?_
  by_cases h1 : most < (num : Int)
  ·refine jB (decide_eq_true h1) ?_
   refine jE ?_
   refine jB @hx' ?_
   refine jA ?_
   refine jI ?_
   have e : eyeText k most st = ([],st.1,11):=by unfold eyeText; rw [hq]; exact (if_pos rfl).trans (if_pos h1)
   rw [e]
   exact ⟨_,_,AV.weak_nil,AS.le.refl _,rfl,he.put⟩
  ·refine jB (decide_eq_false h1) ?_
   refine jF ?_
   by_cases h2 : l'.length < num
   ·refine jB (Ai @hx' (Ai @eye_lt_nat (decide_eq_true h2))) ?_
    refine jE ?_
    refine jB @hx' ?_
    refine jA ?_
    refine jI ?_
    have e : eyeText k most st = ([],st.1,10):=by unfold eyeText; rw [hq]; exact (if_pos rfl).trans ((if_neg h1).trans (if_pos h2))
    rw [e]
    exact ⟨_,_,AV.weak_nil,AS.le.refl _,rfl,he.put⟩
   ·have e : eyeText k most st = eyeNext num (l',0):=by unfold eyeText; rw [hq]; exact (if_pos rfl).trans ((if_neg h1).trans (if_neg h2))
    refine jB (Ai @hx' (Ai @eye_lt_nat (decide_eq_false h2))) ?_
    refine jF ?_
    refine awp_skip ?_
    simp only [thenQ,blockQ,if_true,if_false]
    refine hK _ _ ?_;clear hK K
    refine jQ fun K hK=>?_
    refine acallk (eyeRaw_calls s0 s' p (l',0) num (by simp only; omega) he) ?_
    rintro r s'' ⟨rfl,he'⟩
    refine jR hK ?_;clear hK K
    refine jI ?_
    rw [e]
    exact ⟨_,_,AV.weak.refl _,AS.le.refl _,rfl,he'⟩
 ·refine jB (Ai @hx' (i64_ne_true er h0)) ?_
  refine jE ?_
  refine jA ?_
  refine jI ?_
  have e : eyeText k most st = ([],l',er):=by unfold eyeText; rw [hq]; exact if_neg h0
  rw [e]
  exact ⟨_,_,AV.weak_nil,AS.le.refl _,rfl,he⟩
theorem eyeShort_calls (s0 s : AS) (p : Nat) (st : EyeSt) (most : Int) (hl : st.1.length≤2 ^ 45) (h : EyeS s0 s p st) :
  ACalls Tryz.prog Γ 101 [.ptr p 0,.v (.int .i64 most)] s (fun r s'=>r = bytesV (eyeText 1 most st).1 .any∧EyeS s0 s' p (eyeText 1 most st).2):=by
 refine acalls_body Tryz.func101 rfl Tryz.ntmps101 Tryz.results101 (by simp) ?_
 refine jA ?_
 refine jQ fun K hK=>?_
 refine acallk (eyeText_calls s0 s p st 1 most (by omega) hl h) ?_
 rintro r s' ⟨rfl,he⟩
 refine jR hK ?_;clear hK K
 refine jI ?_
 exact ⟨_,_,AV.weak.refl _,AS.le.refl _,rfl,he⟩
theorem eyeErr_calls (s0 s : AS) (p : Nat) (st : EyeSt) (h : EyeS s0 s p st) :
  ACalls Tryz.prog Γ 190 [.ptr p 0] s (fun r s'=>r = .v (.int .i64 st.2)∧s' = s):=by
 refine acalls_body Tryz.func190 rfl Tryz.ntmps190 Tryz.results190 (by simp) ?_
 have hx:=h.obj
 refine jA ?_
 refine jB @hx ?_
 exact jJ
theorem eyeFail_calls (s0 s : AS) (p : Nat) (st : EyeSt) (e : Int) (h : EyeS s0 s p st) :
  ACalls Tryz.prog Γ 188 [.ptr p 0,.v (.int .i64 e)] s (fun r s'=>r = .tup []∧EyeS s0 s' p (st.1,if st.2 = 0 then e else st.2)):=by
 refine acalls_body Tryz.func188 rfl Tryz.ntmps188 Tryz.results188 (by simp) ?_
 have hx:=h.obj
 obtain ⟨l,er⟩:=st
 simp only at hx ⊢
 by_cases h0 : er = 0
 ·refine jB (Ai @hx (i64_eq_true er h0)) ?_
  refine jE ?_
  refine jD @hx ?_
  simp only [retQ,AEnds,aresL,ares,List.toList_toArray,↓upd_same]; try simp only [UP,DF,Nc,↓reduceIte,DT]
  rw [if_pos h0]
  exact ⟨_,_,AV.weak.refl _,AS.le.refl _,rfl,h.put⟩
 ·refine jB (Ai @hx (i64_eq_false er h0)) ?_
  refine jF ?_
  refine awp_skip ?_
  simp only [retQ,AEnds,aresL,ares,List.toList_toArray,↓upd_same]; try simp only [UP,DF,Nc,↓reduceIte,DT]
  rw [if_neg h0]
  exact ⟨_,_,AV.weak.refl _,AS.le.refl _,rfl,h⟩
theorem eyeEnd_calls (s0 s : AS) (p : Nat) (st : EyeSt) (h : EyeS s0 s p st) :
  ACalls Tryz.prog Γ 104 [.ptr p 0] s (fun r s'=>r = .v (.int .i64 (eyeEnd st))∧s' = s):=by
 refine acalls_body Tryz.func104 rfl Tryz.ntmps104 Tryz.results104 (by simp) ?_
 have hx:=h.obj
 obtain ⟨l,er⟩:=st
 simp only [bytesV] at hx
 refine jA ?_
 refine wK fun K hK=>?_
 have hgo : ∀ E1 : Env,E1 0 = .ptr p 0→eyeEnd (l,er) = er→K E1 s:=by
  intro E1 e0 e
  refine hK _ _ ?_;clear hK K
  refine jB (Ai @e0 @hx) ?_
  refine jI ?_
  exact ⟨_,_,AV.weak.refl _,AS.le.refl _,by rw [e],rfl⟩
 clear hK
 by_cases h0 : er = 0
 ·by_cases h1 : 0 < l.length
  ·refine jB (Ai @hx (Ai (i64_eq_true er h0) (decide_eq_true (show (0 : Int) < (l.length : Int) by omega)))) ?_
   refine jE ?_
   refine jA ?_
   refine jI ?_
   exact ⟨_,_,AV.weak.refl _,AS.le.refl _,by simp [eyeEnd,h0,h1,atuple],rfl⟩
  ·refine jB (Ai @hx (Ai (i64_eq_true er h0) (decide_eq_false (show ¬ (0 : Int) < (l.length : Int) by omega)))) ?_
   refine jF ?_
   refine awp_skip ?_
   exact hgo _ (by simp only [upd,initE,List.getD_cons_zero,Nc,↓reduceIte]) (by simp [eyeEnd,h1])
 ·refine jB (Ai @hx (i64_eq_false er h0)) ?_
  refine jF ?_
  refine awp_skip ?_
  exact hgo _ (by simp only [upd,initE,List.getD_cons_zero,Nc,↓reduceIte]) (by simp [eyeEnd,h0])
end Go.Proofs.YtfjlmkifiihgkaaGreatDoor
namespace Go.Proofs.YtfjlmkifiihgkaaGreatDoor
open Go Go.AM Go.Proofs
variable {Γ : Nat→List AV}
theorem val_step (y : Nat) (c : UInt8) (h : y < 2 ^ 56) : iadd .u64 (imul .u64 (y : Int) 256) (iconv .u64 (c.toNat : Int)) = ((y * 256 + c.toNat : Nat) : Int):=by
 have hc:=c.toNat_lt
 rw [iconv_u64_nat _ (by omega),show (256 : Int) = ((256 : Nat) : Int) from rfl,imul_u rfl,Nat.mod_eq_of_lt (by simp only [IntKind.bits]; omega),iadd_u rfl,Nat.mod_eq_of_lt (by simp only [IntKind.bits]; omega)]
theorem value_calls (l : List UInt8) (hl : l.length≤8) (s : AS) :
  ACalls Tryz.prog Γ 191 [.v (.string ⟨l.toArray⟩)] s (fun r s'=>r = .v (.int .u64 (beNat l))∧s' = s):=by
 refine acalls_body Tryz.func191 rfl Tryz.ntmps191 Tryz.results191 (by simp) ?_
 refine jA ?_
 refine jA ?_
 refine wK fun K hK=>?_
 refine jA ?_
 refine awp_block ?_
 refine awp_loop (fun E s1=>∃ i x : Nat,i≤l.length∧E 0 = .v (.string ⟨l.toArray⟩)∧E 4 = .v (.int .i64 i)∧E 3 = .v (.int .u64 x)∧x = beNat (l.take i)∧s1 = s)
  (fun E _=>match E 4 with | .v (.int _ i)=>l.length - i.toNat | _=>0) ?_ ?_
 ·exact ⟨0,0,Nat.zero_le _,by simp [upd,initE],by simp [upd],by simp [upd],by simp [beNat],rfl⟩
 ·rintro E1 s1 ⟨i,x,hi,h0,h4,h3,hx,rfl⟩ -
  refine wK fun K2 hK2=>?_
  by_cases hi' : i < l.length
  ·have hx2 : beNat (l.take (i + 1)) = x * 256 + l[i].toNat:=by rw [List.take_succ_eq_append_getElem hi',beNat_snoc,← hx]
   have hx7 : x < 2 ^ 56:=by
    rw [hx]
    refine Nat.lt_of_lt_of_le (beNat_take_lt l i) ?_
    rw [show (2 : Nat) ^ 56 = 256 ^ 7 from by decide]
    exact Nat.pow_le_pow_right (by decide) (by omega)
   have hgi : (0 : Int)≤(i : Int):=by omega
   have hget:=bs_get l i hi'
   generalize hcc : l[i] = c at *
   refine jB (Ai @h0 (Ai @h4 (Ai @bs_size (Ai @eye_lt_nat (decide_eq_true hi'))))) ?_
   refine jE ?_
   refine awp_skip ?_
   refine hK2 _ _ ?_;clear hK2 K2
   refine wK fun K3 hK3=>?_
   refine awp_block ?_
   refine wE fun K hK=>?_
   simp only [↓DN,Qa,Qb,Qc,Qd,Qe,Qf,Qg,Qh,reduceCtorEq,↓reduceIte,Na,Nb,Nc,Nk,Nf,Ng,Nh,Za,Zb,Zc,TT,h0,h4,h3,hgi,hget,byteV,val_step x c hx7]
   refine hK _ _ ?_;clear hK K
   simp only [blockQ,thenQ,if_true,if_false]
   refine hK3 _ _ ?_;clear hK3 K3
   refine jD (Ai @h4 (eye_succ i (by omega))) ?_
   refine ⟨⟨i + 1,_,by omega,by simp only [upd,h0,Nc,↓reduceIte],by simp only [upd,↓reduceIte],by simp only [upd,Nc,↓reduceIte],hx2.symm,rfl⟩,?_⟩
   simp only [h4,upd,↓reduceIte]
   omega
  ·refine jB (Ai @h0 (Ai @h4 (Ai @bs_size (Ai @eye_lt_nat (decide_eq_false hi'))))) ?_
   refine jF ?_
   refine awp_exit ?_
   simp only [thenQ,blockQ,if_true]
   refine hK _ _ ?_;clear hK hK2 K K2
   refine jB @h3 ?_
   refine jI ?_
   refine ⟨_,_,AV.weak.refl _,AS.le.refl _,?_,rfl⟩
   rw [hx,List.take_of_length_le (by omega)]
end Go.Proofs.YtfjlmkifiihgkaaGreatDoor
namespace Go.Proofs.YtfjlmkifiihgkaaGreatDoor
open Go Go.AM Go.Proofs
variable {Γ : Nat→List AV}
theorem reyeNumber_calls (s0 s : AS) (p : Nat) (st : EyeSt) (size : Nat) (hs : size≤8) (hl : st.1.length < 2 ^ 61) (h : REyeS s0 s p st) :
  ACalls Tryz.prog Γ 106 [.ptr p 0,.v (.int .i64 size)] s (fun r s'=>r = .v (.int .u64 (eyeNum size st).1)∧REyeS s0 s' p (eyeNum size st).2):=by
 refine acalls_body Tryz.func106 rfl Tryz.ntmps106 Tryz.results106 (by simp) ?_
 have hx:=h.obj
 obtain ⟨l,er⟩:=st
 simp only at hx hl
 refine jA ?_
 refine wK fun K hK=>?_
 by_cases h0 : er = 0
 ·subst h0
  refine jB (Ai @hx (i64_ne_false 0 rfl)) ?_
  refine jF ?_
  refine awp_skip ?_
  refine hK _ _ ?_;clear hK K
  refine wK fun K hK=>?_
  by_cases h1 : l.length < size
  ·refine jB (Ai @hx (Ai @bs_size (Ai @eye_lt_nat (decide_eq_true h1)))) ?_
   refine jE ?_
   refine jB @hx ?_
   refine jA ?_
   refine jI ?_
   rw [eyeNum_short h1]
   exact ⟨_,_,AV.weak.refl _,AS.le.refl _,rfl,h.put⟩
  ·have h1' : size≤l.length:=by omega
   have hle : (size : Int)≤(l.length : Int):=by omega
   have hge : (0 : Int)≤(size : Int):=by omega
   refine jB (Ai @hx (Ai @bs_size (Ai @eye_lt_nat (decide_eq_false h1)))) ?_
   refine jF ?_
   refine awp_skip ?_
   refine hK _ _ ?_;clear hK K
   refine jS (Ai @hx (Ai @bs_size (Ai @bs_extract (Ai @hle @hge)))) fun K hK=>?_
   refine acallk (value_calls (l.take size) (by rw [List.length_take]; omega) s) ?_
   rintro r s' ⟨rfl,rfl⟩
   refine jR hK ?_;clear hK K
   refine jB (Ai @hx (Ai @bs_size (Ai @bs_extract (Ai @hle (Ai @hge @Int.le_refl))))) ?_
   refine jA ?_
   refine jI ?_
   rw [eyeNum_ok h1']
   refine ⟨_,_,AV.weak.refl _,AS.le.refl _,rfl,h.put' ?_⟩
   rw [List.take_length]
 ·refine jB (Ai @hx (i64_ne_true er h0)) ?_
  refine jE ?_
  refine jA ?_
  refine jI ?_
  rw [eyeNum_err h0]
  exact ⟨_,_,AV.weak.refl _,AS.le.refl _,rfl,h⟩
theorem reyeText_calls (s0 s : AS) (p : Nat) (st : EyeSt) (size : Nat) (most : Int) (hs : size≤7) (hl : st.1.length < 2 ^ 61) (h : REyeS s0 s p st) :
  ACalls Tryz.prog Γ 105 [.ptr p 0,.v (.int .i64 size),.v (.int .i64 most)] s (fun r s'=>r = .v (.string ⟨(eyeText size most st).1.toArray⟩)∧REyeS s0 s' p (eyeText size most st).2):=by
 refine acalls_body Tryz.func105 rfl Tryz.ntmps105 Tryz.results105 (by simp) ?_
 have hx:=h.obj
 obtain ⟨l,er⟩:=st
 simp only at hx hl
 refine jA ?_
 refine wK fun K hK=>?_
 by_cases h0 : er = 0
 ·subst h0
  refine jB (Ai @hx (i64_ne_false 0 rfl)) ?_
  refine jF ?_
  refine awp_skip ?_
  refine hK _ _ ?_;clear hK K
  refine wK fun K hK=>?_
  by_cases h1 : l.length < size
  ·refine jB (Ai @hx (Ai @bs_size (Ai @eye_lt_nat (decide_eq_true h1)))) ?_
   refine jE ?_
   refine jB @hx ?_
   refine jA ?_
   refine jI ?_
   rw [eyeText_short h1]
   exact ⟨_,_,AV.weak.refl _,AS.le.refl _,rfl,h.put⟩
  ·have h1' : size≤l.length:=by omega
   have hle : (size : Int)≤(l.length : Int):=by omega
   have hge : (0 : Int)≤(size : Int):=by omega
   refine jB (Ai @hx (Ai @bs_size (Ai @eye_lt_nat (decide_eq_false h1)))) ?_
   refine jF ?_
   refine awp_skip ?_
   refine hK _ _ ?_;clear hK K
   obtain ⟨n,hn⟩ : ∃ n,n = beNat (l.take size):=⟨_,rfl⟩
   have hn7 : n < 2 ^ 56:=by
    rw [hn]
    refine Nat.lt_of_lt_of_le (beNat_take_lt l size) ?_
    rw [show (2 : Nat) ^ 56 = 256 ^ 7 from by decide]
    exact Nat.pow_le_pow_right (by decide) hs
   have hcv : iconv .i64 (n : Int) = n:=iconv_i64 (by omega)
   refine jS (Ai @hx (Ai @bs_size (Ai @bs_extract (Ai @hle @hge)))) fun K hK=>?_
   refine acallk (value_calls (l.take size) (by rw [List.length_take]; omega) s) ?_
   rintro r s' ⟨rfl,rfl⟩
   rw [← hn]
   refine jV @hcv hK ?_;clear hK K
   refine wK fun K hK=>?_
   by_cases h2 : most < (n : Int)
   ·refine jB (decide_eq_true h2) ?_
    refine jE ?_
    refine jB @hx ?_
    refine jA ?_
    refine jI ?_
    rw [eyeText_long h1' (by rw [← hn]; exact h2)]
    exact ⟨_,_,AV.weak.refl _,AS.le.refl _,rfl,h.put⟩
   ·refine jB (decide_eq_false h2) ?_
    refine jF ?_
    refine awp_skip ?_
    refine hK _ _ ?_;clear hK K
    refine wK fun K hK=>?_
    have hsub : isub .i64 (l.length : Int) (size : Int) = ((l.length - size : Nat) : Int):=by rw [isub_i64 (by omega)]; omega
    by_cases h3 : l.length - size < n
    ·refine jB (Ai @hx (Ai @bs_size (Ai @hsub (Ai @eye_lt_nat (decide_eq_true h3))))) ?_
     refine jE ?_
     refine jB @hx ?_
     refine jA ?_
     refine jI ?_
     rw [eyeText_less h1' (by rw [← hn]; exact h2) (by rw [← hn]; exact h3)]
     exact ⟨_,_,AV.weak.refl _,AS.le.refl _,rfl,h.put⟩
    ·have hadd : iadd .i64 (size : Int) (n : Int) = ((size + n : Nat) : Int):=by rw [iadd_i64 (by omega)]; rfl
     have hle2 : (size : Int)≤((size + n : Nat) : Int):=by omega
     have hle3 : ((size + n : Nat) : Int)≤(l.length : Int):=by omega
     have hge2 : (0 : Int)≤((size + n : Nat) : Int):=by omega
     refine jB (Ai @hx (Ai @bs_size (Ai @hsub (Ai @eye_lt_nat (decide_eq_false h3))))) ?_
     refine jF ?_
     refine awp_skip ?_
     refine hK _ _ ?_;clear hK K
     refine jB (Ai @hx (Ai @bs_size (Ai @bs_extract (Ai @hge (Ai @hadd (Ai @hle2 @hle3)))))) ?_
     refine jB (Ai @hx (Ai @bs_size (Ai @bs_extract (Ai @hadd (Ai @hge2 (Ai @hle3 @Int.le_refl)))))) ?_
     refine jA ?_
     refine jI ?_
     rw [eyeText_ok h1' (by rw [← hn]; exact h2) (by rw [← hn]; exact h3),← hn]
     refine ⟨_,_,AV.weak.refl _,AS.le.refl _,rfl,h.put' ?_⟩
     rw [List.take_length]
 ·refine jB (Ai @hx (i64_ne_true er h0)) ?_
  refine jE ?_
  refine jA ?_
  refine jI ?_
  rw [eyeText_err h0]
  exact ⟨_,_,AV.weak.refl _,AS.le.refl _,rfl,h⟩
theorem reyeEnd_calls (s0 s : AS) (p : Nat) (st : EyeSt) (h : REyeS s0 s p st) :
  ACalls Tryz.prog Γ 108 [.ptr p 0] s (fun r s'=>r = .v (.int .i64 (eyeEnd st))∧s' = s):=by
 refine acalls_body Tryz.func108 rfl Tryz.ntmps108 Tryz.results108 (by simp) ?_
 have hx:=h.obj
 obtain ⟨l,er⟩:=st
 simp only at hx
 refine jA ?_
 refine wK fun K hK=>?_
 have hgo : ∀ E1 : Env,E1 0 = .ptr p 0→eyeEnd (l,er) = er→K E1 s:=by
  intro E1 e0 e
  refine hK _ _ ?_;clear hK K
  refine jB (Ai @e0 @hx) ?_
  refine jI ?_
  exact ⟨_,_,AV.weak.refl _,AS.le.refl _,by rw [e],rfl⟩
 clear hK
 by_cases h0 : er = 0
 ·by_cases h1 : 0 < l.length
  ·refine jB (Ai @hx (Ai (i64_eq_true er h0) (Ai @bs_size (decide_eq_true (show (0 : Int) < (l.length : Int) by omega))))) ?_
   refine jE ?_
   refine jA ?_
   refine jI ?_
   exact ⟨_,_,AV.weak.refl _,AS.le.refl _,by simp [eyeEnd,h0,h1,atuple],rfl⟩
  ·refine jB (Ai @hx (Ai (i64_eq_true er h0) (Ai @bs_size (decide_eq_false (show ¬ (0 : Int) < (l.length : Int) by omega))))) ?_
   refine jF ?_
   refine awp_skip ?_
   exact hgo _ (by simp only [upd,initE,List.getD_cons_zero,Nc,↓reduceIte]) (by simp [eyeEnd,h1])
 ·refine jB (Ai @hx (i64_eq_false er h0)) ?_
  refine jF ?_
  refine awp_skip ?_
  exact hgo _ (by simp only [upd,initE,List.getD_cons_zero,Nc,↓reduceIte]) (by simp [eyeEnd,h0])
end Go.Proofs.YtfjlmkifiihgkaaGreatDoor
namespace Go.Proofs.YtfjlmkifiihgkaaGreatDoor
open Go Go.AM Go.Proofs
variable {Γ : Nat→List AV}
theorem open_set (l : List UInt8) (s : AS) (hl : l.length≤2 ^ 45) : ACalls Tryz.prog Γ 100 [bytesV l .any] s (fun r s'=>∃ p,s.objs p = none∧r = .ptr p 0∧s' = s.set p (eyeC (l,0))):=EyeS.open (open_calls l s hl)
theorem eyeU8_set (s : AS) (p : Nat) (st : EyeSt) (h : s.objs p = some (eyeC st)) : ACalls Tryz.prog Γ 187 [.ptr p 0] s (fun r s'=>r = .v (.int .i64 (eyeNum 1 st).1)∧s' = s.set p (eyeC (eyeNum 1 st).2)):=EyeS.call (eyeU8_calls _ s p st (EyeS.at h))
theorem eyeU64_set (s : AS) (p : Nat) (st : EyeSt) (h : s.objs p = some (eyeC st)) : ACalls Tryz.prog Γ 102 [.ptr p 0] s (fun r s'=>r = .v (.int .u64 (eyeNum 8 st).1)∧s' = s.set p (eyeC (eyeNum 8 st).2)):=EyeS.call (eyeU64_calls _ s p st (EyeS.at h))
theorem eyeShort_set (s : AS) (p : Nat) (st : EyeSt) (most : Int) (hl : st.1.length≤2 ^ 45) (h : s.objs p = some (eyeC st)) : ACalls Tryz.prog Γ 101 [.ptr p 0,.v (.int .i64 most)] s (fun r s'=>r = bytesV (eyeText 1 most st).1 .any∧s' = s.set p (eyeC (eyeText 1 most st).2)):=EyeS.call (eyeShort_calls _ s p st most hl (EyeS.at h))
theorem eyeFail_set (s : AS) (p : Nat) (st : EyeSt) (e : Int) (h : s.objs p = some (eyeC st)) : ACalls Tryz.prog Γ 188 [.ptr p 0,.v (.int .i64 e)] s (fun r s'=>r = .tup []∧s' = s.set p (eyeC (st.1,if st.2 = 0 then e else st.2))):=EyeS.call (eyeFail_calls _ s p st e (EyeS.at h))
theorem eyeEnd_at (s : AS) (p : Nat) (st : EyeSt) (h : s.objs p = some (eyeC st)) : ACalls Tryz.prog Γ 104 [.ptr p 0] s (fun r s'=>r = .v (.int .i64 (eyeEnd st))∧s' = s):=eyeEnd_calls _ s p st (EyeS.at h)
theorem eyeErr_at (s : AS) (p : Nat) (st : EyeSt) (h : s.objs p = some (eyeC st)) : ACalls Tryz.prog Γ 190 [.ptr p 0] s (fun r s'=>r = .v (.int .i64 st.2)∧s' = s):=eyeErr_calls _ s p st (EyeS.at h)
theorem reyeNumber_set (s : AS) (p : Nat) (st : EyeSt) (size : Nat) (hs : size≤8) (hl : st.1.length < 2 ^ 61) (h : s.objs p = some (reyeC st)) : ACalls Tryz.prog Γ 106 [.ptr p 0,.v (.int .i64 size)] s (fun r s'=>r = .v (.int .u64 (eyeNum size st).1)∧s' = s.set p (reyeC (eyeNum size st).2)):=REyeS.call (reyeNumber_calls _ s p st size hs hl (REyeS.at h))
theorem reyeText_set (s : AS) (p : Nat) (st : EyeSt) (size : Nat) (most : Int) (hs : size≤7) (hl : st.1.length < 2 ^ 61) (h : s.objs p = some (reyeC st)) : ACalls Tryz.prog Γ 105 [.ptr p 0,.v (.int .i64 size),.v (.int .i64 most)] s (fun r s'=>r = .v (.string ⟨(eyeText size most st).1.toArray⟩)∧s' = s.set p (reyeC (eyeText size most st).2)):=REyeS.call (reyeText_calls _ s p st size most hs hl (REyeS.at h))
theorem reyeEnd_at (s : AS) (p : Nat) (st : EyeSt) (h : s.objs p = some (reyeC st)) : ACalls Tryz.prog Γ 108 [.ptr p 0] s (fun r s'=>r = .v (.int .i64 (eyeEnd st))∧s' = s):=reyeEnd_calls _ s p st (REyeS.at h)
end Go.Proofs.YtfjlmkifiihgkaaGreatDoor
