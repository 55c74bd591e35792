/- Contracts of the program's functions, each walked once; the conditions stand in each theorem. -/
import Derived.Test.YtfjlmkifiihgkaaGreatDoorAMp6
import Derived.Test.YtfjlmkifiihgkaaGreatDoorW1
import Derived.Test.YtfjlmkifiihgkaaGreatDoorW2
set_option linter.unusedSimpArgs false
set_option linter.unusedVariables false
open Nat renaming reduceLT → Na, reduceLeDiff → Nb, reduceEqDiff → Nc, reduceAdd → Nk, reduceMul → Nf, reducePow → Ng, reduceSub → Nh, reduceBEq → Nz
open Int renaming reduceLT → Za, reduceLE → Zb, reduceToNat → Zc
open And renaming intro → Ai
open Go.AM renaming ashift → Qa, aconv → Qb, aindexAddr → Qc, aindex → Qd, aslice → Qe, abuiltin → Qf, awp_reg_seq → wS, awp_reg_end → wE, awp_seq_k → wK, awp_cond_k → wC
open Go.AM.AV renaming cells → Qg, one → Qh
set_option maxRecDepth 100000
set_option maxHeartbeats 8000000
set_option autoImplicit false
namespace Go.Proofs.YtfjlmkifiihgkaaGreatDoor
open Go Go.AM Go.Proofs
variable {Γ : Nat→List AV}
theorem powerRight_calls (n : Nat) (s : AS) : ACalls Tryz.prog Γ 141 [.v (.int .u64 n)] s (fun r s'=>r = .v (.bool (decide (2≤(n : Int)) && decide ((n : Int)≤2305843009213693949)))∧s' = s):=by
 refine acalls_body Tryz.func141 rfl Tryz.ntmps141 Tryz.results141 (by simp) ?_
 rcases ff2 (decide (2≤(n : Int))) (decide ((n : Int)≤2305843009213693949)) with hd | hd | hd
 all_goals
  refine jA ?_
  refine jB @hd ?_
  refine jI ?_
  refine ⟨_,_,AV.weak.refl _,AS.le.refl _,?_,rfl⟩
  simp only [hd,Bool.and_true,Bool.true_and,Bool.false_and,Bool.and_false]
theorem refRight07_calls (n : Nat) (s : AS) : ACalls Tryz.prog Γ 138 [.v (.int .u64 n)] s (fun r s'=>r = .v (.bool (decide (2≤(n : Int)) && decide ((n : Int)≤2305843009213693949)))∧s' = s):=by
 refine acalls_body Tryz.func138 rfl Tryz.ntmps138 Tryz.results138 (by simp) ?_
 rcases ff2 (decide (2≤(n : Int))) (decide ((n : Int)≤2305843009213693949)) with hd | hd | hd
 all_goals
  refine jA ?_
  refine jB @hd ?_
  refine jI ?_
  refine ⟨_,_,AV.weak.refl _,AS.le.refl _,?_,rfl⟩
  simp only [hd,Bool.and_true,Bool.true_and,Bool.false_and,Bool.and_false]
theorem bytesEqual_calls (a b : List UInt8) (s : AS) : ACalls Tryz.prog Γ 88 [bytesV a .any,bytesV b .any] s (fun r s'=>r = .v (.bool (decide (a = b)))∧s' = s):=by
 refine acalls_body Tryz.func88 rfl Tryz.ntmps88 Tryz.results88 (by simp) ?_
 refine jA ?_
 refine jB @beq_list ?_
 exact jJ
theorem len_bne_false {a b : Nat} (h : a = b) : (((a : Int) != (b : Int))) = false:=by subst h; simp
theorem len_bne_true {a b : Nat} (h : a≠b) : (((a : Int) != (b : Int))) = true:=by simp; omega
theorem int_bne_false {a b : Int} (h : a = b) : (a != b) = false:=by subst h; simp
theorem int_bne_true {a b : Int} (h : a≠b) : (a != b) = true:=by simpa using h
theorem slicesEqual_calls (a b : List Int) (hl : a.length≤2 ^ 61) (s : AS) : ACalls Tryz.prog Γ 197 [intsV a .any,intsV b .any] s (fun r s'=>r = .v (.bool (decide (a = b)))∧s' = s):=by
 refine acalls_body Tryz.func197 rfl Tryz.ntmps197 Tryz.results197 (by simp) ?_
 unfold intsV
 refine jA ?_
 refine wK fun K hK=>?_
 by_cases h0 : a.length = b.length
 ·refine jB (len_bne_false h0) ?_
  refine jF ?_
  refine awp_skip ?_
  refine hK _ _ ?_;clear hK K
  refine wK fun K hK=>?_
  refine jA ?_
  refine awp_block ?_
  refine awp_loop (fun E s1=>∃ i : Nat,i≤a.length∧E 13 = .v (.int .i64 i)∧E 12 = .v (.int .i64 a.length)∧E 0 = .sl 1 a.length (a.map intC) .any∧E 1 = .sl 1 b.length (b.map intC) .any∧a.take i = b.take i∧s1 = s)
   (fun E _=>match E 13 with | .v (.int _ i)=>a.length - i.toNat | _=>0) ?_ ?_
  ·exact ⟨0,Nat.zero_le _,by simp [upd],by simp [upd],by simp [upd,initE],by simp [upd,initE],rfl,rfl⟩
  ·rintro E1 s1 ⟨i,hi,h13,h12,h00,h1,he,rfl⟩ -
   by_cases hi' : i < a.length
   ·have hib : i < b.length:=by omega
    refine jB (Ai @h13 (Ai @h12 (Ai @eye_lt_nat (decide_eq_true hi')))) ?_
    refine wK fun K2 hK2=>?_
    refine jE ?_
    refine awp_skip ?_
    refine hK2 _ _ ?_;clear hK2 K2
    refine wK fun K3 hK3=>?_
    refine awp_block ?_
    refine jB @h13 ?_
    have hge : (0 : Int)≤(i : Int):=by omega
    have hat:=eat_int hi'
    have hbt:=eat_int hib
    by_cases hx : a[i] = b[i]
    ·refine awp_drw_seq T.mixed [] (by kernel_rfl) ?_
     intro K hK
     refine jV (Ai @h13 (Ai @h00 (Ai @h1 (Ai @hge (Ai @eye_lt_nat (Ai @hi' (Ai @hib (Ai @hat (Ai @hbt (int_bne_false hx)))))))))) hK ?_;clear hK K
     refine jF ?_
     refine awp_skip ?_
     simp only [blockQ,thenQ,if_true,if_false]
     refine hK3 _ _ ?_;clear hK3 K3
     refine jD (Ai @h13 (eye_succ i (by omega))) ?_
     refine ⟨⟨i + 1,by omega,by simp only [upd,↓reduceIte],by simp only [upd,h12,Nc,↓reduceIte],by simp only [upd,h00,Nc,↓reduceIte],by simp only [upd,h1,Nc,↓reduceIte],take_eq_succ hi' hib he hx,rfl⟩,?_⟩
     simp only [h13,upd,↓reduceIte]
     omega
    ·refine awp_drw_seq T.mixed [] (by kernel_rfl) ?_
     intro K hK
     refine jV (Ai @h13 (Ai @h00 (Ai @h1 (Ai @hge (Ai @eye_lt_nat (Ai @hi' (Ai @hib (Ai @hat (Ai @hbt (int_bne_true hx)))))))))) hK ?_;clear hK K
     refine jE ?_
     refine jA ?_
     refine awp_ret ?_
     simp only [thenQ,blockQ]
     simp only [retQ,AEnds,aresL,ares,List.toList_toArray,↓upd_same]; try simp only [UP,DF,Nc,↓reduceIte,DT]
     refine ⟨_,_,AV.weak.refl _,AS.le.refl _,?_,rfl⟩
     rw [decide_eq_false]
     intro e
     subst e
     exact hx rfl
   ·refine jB (Ai @h13 (Ai @h12 (Ai @eye_lt_nat (decide_eq_false hi')))) ?_
    refine wK fun K2 hK2=>?_
    refine jF ?_
    refine awp_exit ?_
    simp only [thenQ,blockQ,if_true]
    refine hK _ _ ?_;clear hK hK2 K K2
    refine jA ?_
    refine jI ?_
    refine ⟨_,_,AV.weak.refl _,AS.le.refl _,?_,rfl⟩
    rw [List.take_of_length_le (by omega),List.take_of_length_le (by omega)] at he
    rw [decide_eq_true he]
 ·refine jB (len_bne_true h0) ?_
  refine jE ?_
  refine jA ?_
  refine jI ?_
  refine ⟨_,_,AV.weak.refl _,AS.le.refl _,?_,rfl⟩
  rw [decide_eq_false (fun e=>h0 (by rw [e]))]
  try rfl
theorem refInts_calls (a b : List Int) (hl : a.length≤2 ^ 61) (s : AS) : ACalls Tryz.prog Γ 20 [intsV a .any,intsV b .any] s (fun r s'=>r = .v (.bool (decide (a = b)))∧s' = s):=by
 refine acalls_body Tryz.func20 rfl Tryz.ntmps20 Tryz.results20 (by simp) ?_
 unfold intsV
 refine jA ?_
 refine wK fun K hK=>?_
 by_cases h0 : a.length = b.length
 ·refine jB (len_bne_false h0) ?_
  refine jF ?_
  refine awp_skip ?_
  refine hK _ _ ?_;clear hK K
  refine wK fun K hK=>?_
  refine jA ?_
  refine awp_block ?_
  refine awp_loop (fun E s1=>∃ i : Nat,i≤a.length∧E 5 = .v (.int .i64 i)∧E 0 = .sl 1 a.length (a.map intC) .any∧E 1 = .sl 1 b.length (b.map intC) .any∧a.take i = b.take i∧s1 = s)
   (fun E _=>match E 5 with | .v (.int _ i)=>a.length - i.toNat | _=>0) ?_ ?_
  ·exact ⟨0,Nat.zero_le _,by simp [upd],by simp [upd,initE],by simp [upd,initE],rfl,rfl⟩
  ·rintro E1 s1 ⟨i,hi,h5,h00,h1,he,rfl⟩ -
   refine wK fun K2 hK2=>?_
   by_cases hi' : i < a.length
   ·have hib : i < b.length:=by omega
    refine jB (Ai @h5 (Ai @h00 (Ai @eye_lt_nat (decide_eq_true hi')))) ?_
    refine jE ?_
    refine awp_skip ?_
    refine hK2 _ _ ?_;clear hK2 K2
    refine wK fun K3 hK3=>?_
    refine awp_block ?_
    have hge : (0 : Int)≤(i : Int):=by omega
    have hat:=eat_int hi'
    have hbt:=eat_int hib
    by_cases hx : a[i] = b[i]
    ·refine awp_drw_seq T.mixed [] (by kernel_rfl) ?_
     intro K hK
     refine jV (Ai @h5 (Ai @h00 (Ai @h1 (Ai @hge (Ai @eye_lt_nat (Ai @hi' (Ai @hib (Ai @hat (Ai @hbt (int_bne_false hx)))))))))) hK ?_;clear hK K
     refine jF ?_
     refine awp_skip ?_
     simp only [blockQ,thenQ,if_true,if_false]
     refine hK3 _ _ ?_;clear hK3 K3
     refine jD (Ai @h5 (eye_succ i (by omega))) ?_
     refine ⟨⟨i + 1,by omega,by simp only [upd,↓reduceIte],by simp only [upd,h00,Nc,↓reduceIte],by simp only [upd,h1,Nc,↓reduceIte],take_eq_succ hi' hib he hx,rfl⟩,?_⟩
     simp only [h5,upd,↓reduceIte]
     omega
    ·refine awp_drw_seq T.mixed [] (by kernel_rfl) ?_
     intro K hK
     refine jV (Ai @h5 (Ai @h00 (Ai @h1 (Ai @hge (Ai @eye_lt_nat (Ai @hi' (Ai @hib (Ai @hat (Ai @hbt (int_bne_true hx)))))))))) hK ?_;clear hK K
     refine jE ?_
     refine jA ?_
     refine awp_ret ?_
     simp only [thenQ,blockQ]
     simp only [retQ,AEnds,aresL,ares,List.toList_toArray,↓upd_same]; try simp only [UP,DF,Nc,↓reduceIte,DT]
     refine ⟨_,_,AV.weak.refl _,AS.le.refl _,?_,rfl⟩
     rw [decide_eq_false]
     intro e
     subst e
     exact hx rfl
   ·refine jB (Ai @h5 (Ai @h00 (Ai @eye_lt_nat (decide_eq_false hi')))) ?_
    refine jF ?_
    refine awp_exit ?_
    simp only [thenQ,blockQ,if_true]
    refine hK _ _ ?_;clear hK hK2 K K2
    refine jA ?_
    refine jI ?_
    refine ⟨_,_,AV.weak.refl _,AS.le.refl _,?_,rfl⟩
    rw [List.take_of_length_le (by omega),List.take_of_length_le (by omega)] at he
    rw [decide_eq_true he]
 ·refine jB (len_bne_true h0) ?_
  refine jE ?_
  refine jA ?_
  refine jI ?_
  refine ⟨_,_,AV.weak.refl _,AS.le.refl _,?_,rfl⟩
  rw [decide_eq_false (fun e=>h0 (by rw [e]))]
  try rfl
theorem nodeSame_calls (N M : NodeV) (hl : N.unm.length≤2 ^ 61) (s : AS) : ACalls Tryz.prog Γ 116 [.agg N.cells,.agg M.cells] s (fun r s'=>r = .v (.bool (decide (N = M)))∧s' = s):=by
 refine acalls_body Tryz.func116 rfl Tryz.ntmps116 Tryz.results116 (by simp) ?_
 unfold NodeV.cells
 obtain ⟨k,m,y,p,u⟩:=N
 obtain ⟨k',m',y',p',u'⟩:=M
 rw [node_eq_bool]
 refine jS @intsV.eq_1 fun K hK=>?_
 intro o ho
 intro o' ho'
 have hne : o≠o':=by
  intro e
  subst e
  simp [AS.set] at ho'
 have hle : s.le ((s.set o [.v (.int .i64 k),bytesV m .any,.v (.int .u64 y),bytesV p .any,intsV u .any]).set o' [.v (.int .i64 k'),bytesV m' .any,.v (.int .u64 y'),bytesV p' .any,intsV u' .any]):=AS.le_set (AS.le_set (AS.le.refl s) ho _) (by simpa [AS.set,upd,hne.symm] using ho') _
 refine hK _ _ ?_;clear hK K
 rcases ff5 (k == k') ((y : Int) == (y' : Int)) (decide (m = m')) (decide (p = p')) (decide (u = u')) with hd | hd | hd | hd | hd | hd
 ·refine jB (Ai @hne (Ai @hd @intsV.eq_1)) ?_
  refine jI ?_
  refine ⟨_,s,AV.weak.refl _,hle,?_,rfl⟩
  simp only [hd,Bool.and_true,Bool.true_and,Bool.false_and,Bool.and_false]
  try rfl
 ·refine jB (Ai @hne (Ai @hd @intsV.eq_1)) ?_
  refine jI ?_
  refine ⟨_,s,AV.weak.refl _,hle,?_,rfl⟩
  simp only [hd,Bool.and_true,Bool.true_and,Bool.false_and,Bool.and_false]
  try rfl
 ·refine jS (Ai @hne (Ai @hd @intsV.eq_1)) fun K hK=>?_
  refine acallk (bytesEqual_calls m m' _) ?_
  rintro r s' ⟨rfl,rfl⟩
  refine jV (Ai @hne (Ai @hd @intsV.eq_1)) hK ?_;clear hK K
  refine jI ?_
  refine ⟨_,s,AV.weak.refl _,hle,?_,rfl⟩
  simp only [hd,Bool.and_true,Bool.true_and,Bool.false_and,Bool.and_false]
  try rfl
 ·refine jS (Ai @hne (Ai @hd @intsV.eq_1)) fun K hK=>?_
  refine acallk (bytesEqual_calls m m' _) ?_
  rintro r s' ⟨rfl,rfl⟩
  simp only [↓DM,pval,DX,Nz,↓DN,Qa,Qb,Qc,Qd,Qe,Qf,Qg,Qh,reduceCtorEq,↓reduceIte,Na,Nb,Nc,Nk,Nf,Ng,Nh,Za,Zb,Zc,TT,hne,hd,intsV]
  refine acallk (bytesEqual_calls p p' _) ?_
  rintro r s' ⟨rfl,rfl⟩
  refine jV (Ai @hne (Ai @hd @intsV.eq_1)) hK ?_;clear hK K
  refine jI ?_
  refine ⟨_,s,AV.weak.refl _,hle,?_,rfl⟩
  simp only [hd,Bool.and_true,Bool.true_and,Bool.false_and,Bool.and_false]
  try rfl
 all_goals
  refine jS (Ai @hne (Ai @hd @intsV.eq_1)) fun K hK=>?_
  refine acallk (bytesEqual_calls m m' _) ?_
  rintro r s' ⟨rfl,rfl⟩
  simp only [↓DM,pval,DX,Nz,↓DN,Qa,Qb,Qc,Qd,Qe,Qf,Qg,Qh,reduceCtorEq,↓reduceIte,Na,Nb,Nc,Nk,Nf,Ng,Nh,Za,Zb,Zc,TT,hne,hd,intsV]
  refine acallk (bytesEqual_calls p p' _) ?_
  rintro r s' ⟨rfl,rfl⟩
  simp only [↓DM,pval,DX,Nz,↓DN,Qa,Qb,Qc,Qd,Qe,Qf,Qg,Qh,reduceCtorEq,↓reduceIte,Na,Nb,Nc,Nk,Nf,Ng,Nh,Za,Zb,Zc,TT,hne,hd,intsV]
  refine acallk (slicesEqual_calls u u' hl _) ?_
  rintro r s' ⟨rfl,rfl⟩
  refine jV (Ai @hne (Ai @hd @intsV.eq_1)) hK ?_;clear hK K
  refine jI ?_
  refine ⟨_,s,AV.weak.refl _,hle,?_,rfl⟩
  simp only [hd,Bool.and_true,Bool.true_and,Bool.false_and,Bool.and_false]
  try rfl
theorem refSame19_calls (N M : NodeV) (hl : N.unm.length≤2 ^ 61) (s : AS) : ACalls Tryz.prog Γ 60 [.agg N.cells,.agg M.cells] s (fun r s'=>r = .v (.bool (decide (N = M)))∧s' = s):=by
 refine acalls_body Tryz.func60 rfl Tryz.ntmps60 Tryz.results60 (by simp) ?_
 unfold NodeV.cells
 obtain ⟨k,m,y,p,u⟩:=N
 obtain ⟨k',m',y',p',u'⟩:=M
 rw [node_eq_bool]
 refine jS @intsV.eq_1 fun K hK=>?_
 intro o ho
 intro o' ho'
 have hne : o≠o':=by
  intro e
  subst e
  simp [AS.set] at ho'
 have hle : s.le ((s.set o [.v (.int .i64 k),bytesV m .any,.v (.int .u64 y),bytesV p .any,intsV u .any]).set o' [.v (.int .i64 k'),bytesV m' .any,.v (.int .u64 y'),bytesV p' .any,intsV u' .any]):=AS.le_set (AS.le_set (AS.le.refl s) ho _) (by simpa [AS.set,upd,hne.symm] using ho') _
 refine hK _ _ ?_;clear hK K
 rcases ff5 (k == k') ((y : Int) == (y' : Int)) (decide (m = m')) (decide (p = p')) (decide (u = u')) with hd | hd | hd | hd | hd | hd
 case inr.inr.inr.inr.inl | inr.inr.inr.inr.inr =>
  refine jS (Ai @hne (Ai @hd (Ai @intsV.eq_1 @beq_list))) fun K hK=>?_
  refine acallk (refInts_calls u u' hl _) ?_
  rintro r s' ⟨rfl,rfl⟩
  refine jV (Ai @hne (Ai @hd (Ai @intsV.eq_1 @beq_list))) hK ?_;clear hK K
  refine jI ?_
  refine ⟨_,s,AV.weak.refl _,hle,?_,rfl⟩
  simp only [hd,Bool.and_true,Bool.true_and,Bool.false_and,Bool.and_false]
  try rfl
 all_goals
  refine jB (Ai @hne (Ai @hd (Ai @intsV.eq_1 @beq_list))) ?_
  refine jI ?_
  refine ⟨_,s,AV.weak.refl _,hle,?_,rfl⟩
  simp only [hd,Bool.and_true,Bool.true_and,Bool.false_and,Bool.and_false]
  try rfl
end Go.Proofs.YtfjlmkifiihgkaaGreatDoor
namespace Go.Proofs.YtfjlmkifiihgkaaGreatDoor
open Go Go.AM Go.Proofs
variable {Γ : Nat→List AV}
theorem int_eq_no {a b : Int} (h : a≠b) : (a == b) = false:=by simpa using h
theorem int_eq_yes {a b : Int} (h : a = b) : (a == b) = true:=by simpa using h
theorem rising_calls (l : List Int) (hl : l.length≤2 ^ 61) (s : AS) : ACalls Tryz.prog Γ 137 [intsV l .any] s (fun r s'=>r = .v (.bool (decide (Rising l)))∧s' = s):=by
 refine acalls_body Tryz.func137 rfl Tryz.ntmps137 Tryz.results137 (by simp) ?_
 unfold intsV
 refine jA ?_
 refine wK fun K hK=>?_
 refine jA ?_
 refine awp_block ?_
 refine awp_loop (fun E s1=>∃ i : Nat,i≤l.length∧E 7 = .v (.int .i64 i)∧E 6 = .v (.int .i64 l.length)∧E 0 = .sl 1 l.length (l.map intC) .any∧E 5 = .sl 1 l.length (l.map intC) .any∧(∀ j,j < i→okAt l j)∧s1 = s)
  (fun E _=>match E 7 with | .v (.int _ i)=>l.length - i.toNat | _=>0) ?_ ?_
 ·exact ⟨0,Nat.zero_le _,by simp [upd],by simp [upd],by simp [upd,initE],by simp [upd,initE],by simp,rfl⟩
 ·rintro E1 s1 ⟨i,hi,h7,h6,h0,h5,hall,rfl⟩ -
  by_cases hi' : i < l.length
  ·refine jB (Ai @h7 (Ai @h6 (Ai @eye_lt_nat (decide_eq_true hi')))) ?_
   refine wK fun K2 hK2=>?_
   refine jE ?_
   refine awp_skip ?_
   refine hK2 _ _ ?_;clear hK2 K2
   refine wK fun K3 hK3=>?_
   refine awp_block ?_
   have hge : (0 : Int)≤(i : Int):=by omega
   have hat:=eat_int hi'
   have hok : (okAt l i)→∀ E2 : Env,E2 7 = .v (.int .i64 i)→E2 6 = .v (.int .i64 l.length)→E2 0 = .sl 1 l.length (l.map intC) .any→E2 5 = .sl 1 l.length (l.map intC) .any→K3 E2 s1:=by
    intro ho E2 g7 g6 g0 g5
    refine hK3 _ _ ?_;clear hK3 K3
    refine jD (Ai @g7 (eye_succ i (by omega))) ?_
    refine ⟨⟨i + 1,by omega,by simp only [upd,↓reduceIte],by simp only [upd,g6,Nc,↓reduceIte],by simp only [upd,g0,Nc,↓reduceIte],by simp only [upd,g5,Nc,↓reduceIte],?_,rfl⟩,?_⟩
    ·intro j hj
     by_cases hji : j < i
     ·exact hall j hji
     ·obtain rfl : j = i:=by omega
      exact ho
    ·simp only [h7,upd,↓reduceIte]
     omega
   clear hK3
   have hbad : ¬ okAt l i→decide (Rising l) = false:=fun h=>decide_eq_false fun hr=>h (hr i hi')
   refine jB (Ai @h7 (Ai @h5 (Ai @hge (Ai @eye_lt_nat (Ai @hi' @hat))))) ?_
   by_cases h1 : l[i] < 0
   ·refine jB (decide_eq_true h1) ?_
    refine jE ?_
    refine jA ?_
    refine awp_ret ?_
    simp only [thenQ,blockQ]
    simp only [retQ,AEnds,aresL,ares,List.toList_toArray,↓upd_same]; try simp only [UP,DF,Nc,↓reduceIte,DT]
    rw [hbad (fun h=>by have:=okAt_get hi' h; omega)]
    exact ⟨_,_,AV.weak.refl _,AS.le.refl _,rfl,rfl⟩
   by_cases h2 : 32≤l[i]
   ·refine jB (Ai (decide_eq_false h1) (decide_eq_true h2)) ?_
    refine jE ?_
    refine jA ?_
    refine awp_ret ?_
    simp only [thenQ,blockQ]
    simp only [retQ,AEnds,aresL,ares,List.toList_toArray,↓upd_same]; try simp only [UP,DF,Nc,↓reduceIte,DT]
    rw [hbad (fun h=>by have:=okAt_get hi' h; omega)]
    exact ⟨_,_,AV.weak.refl _,AS.le.refl _,rfl,rfl⟩
   by_cases h3 : (0 : Int) < (i : Int)
   ·have hj : i - 1 < l.length:=by omega
    have hsub : isub .i64 (i : Int) 1 = ((i - 1 : Nat) : Int):=by rw [isub_i64 (by omega)]; omega
    have hat2:=eat_int hj
    have hge2 : (0 : Int)≤((i - 1 : Nat) : Int):=by omega
    by_cases h4 : l[i]≤l[i - 1]
    ·refine jB (Ai (decide_eq_false h1) (Ai (decide_eq_false h2) (Ai (decide_eq_true h3) (Ai @h0 (Ai @hsub (Ai @hge2 (Ai @eye_lt_nat (Ai @hj (Ai @hat2 (decide_eq_true h4)))))))))) ?_
     refine jE ?_
     refine jA ?_
     refine awp_ret ?_
     simp only [thenQ,blockQ]
     simp only [retQ,AEnds,aresL,ares,List.toList_toArray,↓upd_same]; try simp only [UP,DF,Nc,↓reduceIte,DT]
     rw [hbad (fun h=>by have:=(okAt_get hi' h).2.2 (by omega); omega)]
     exact ⟨_,_,AV.weak.refl _,AS.le.refl _,rfl,rfl⟩
    ·refine jB (Ai (decide_eq_false h1) (Ai (decide_eq_false h2) (Ai (decide_eq_true h3) (Ai @h0 (Ai @hsub (Ai @hge2 (Ai @eye_lt_nat (Ai @hj (Ai @hat2 (decide_eq_false h4)))))))))) ?_
     refine jF ?_
     refine awp_skip ?_
     simp only [blockQ,thenQ,if_true,if_false]
     exact hok (okAt_of hi' (by omega) (by omega) (fun _=>by omega)) _ (by simp only [upd,h7,Nc,↓reduceIte]) (by simp only [upd,h6,Nc,↓reduceIte]) (by simp only [upd,h0,Nc,↓reduceIte]) (by simp only [upd,h5,Nc,↓reduceIte])
   ·refine jB (Ai (decide_eq_false h1) (Ai (decide_eq_false h2) (decide_eq_false h3))) ?_
    refine jF ?_
    refine awp_skip ?_
    simp only [blockQ,thenQ,if_true,if_false]
    exact hok (okAt_of hi' (by omega) (by omega) (fun q=>by omega)) _ (by simp only [upd,h7,Nc,↓reduceIte]) (by simp only [upd,h6,Nc,↓reduceIte]) (by simp only [upd,h0,Nc,↓reduceIte]) (by simp only [upd,h5,Nc,↓reduceIte])
  ·refine jB (Ai @h7 (Ai @h6 (Ai @eye_lt_nat (decide_eq_false hi')))) ?_
   refine wK fun K2 hK2=>?_
   refine jF ?_
   refine awp_exit ?_
   simp only [thenQ,blockQ,if_true]
   refine hK _ _ ?_;clear hK hK2 K K2
   refine jA ?_
   refine jI ?_
   refine ⟨_,_,AV.weak.refl _,AS.le.refl _,?_,rfl⟩
   rw [decide_eq_true (show Rising l from fun j hj=>hall j (by omega))]
theorem held_calls (N : NodeV) (s : AS) : ACalls Tryz.prog Γ 136 [.agg N.cells] s (fun r s'=>r = .v (.bool (decide N.held))∧s' = s):=by
 refine acalls_body Tryz.func136 rfl Tryz.ntmps136 Tryz.results136 (by simp) ?_
 unfold NodeV.cells
 obtain ⟨k,m,y,p,u⟩:=N
 refine awp_reg_frz 1 (by simp [dsts]) ?_
 intro K hK
 simp only [↓DM,pval,DX,Nz,↓DN,Qa,Qb,Qc,Qd,Qe,Qf,Qg,Qh,reduceCtorEq,↓reduceIte,Na,Nb,Nc,Nk,Nf,Ng,Nh,Za,Zb,Zc,TT,intsV]
 intro o ho
 refine hK _ _ o _ (by simp only [upd,Nc,↓reduceIte]) ho ?_
 clear hK K ho
 have hr : ∀ b,(NodeV.held ⟨k,m,y,p,u⟩↔b = true)→decide (NodeV.held ⟨k,m,y,p,u⟩) = b:=by
  intro b h
  cases b
  ·exact decide_eq_false (fun h2=>by have:=h.1 h2; cases this)
  ·exact decide_eq_true (h.2 rfl)
 by_cases h1 : 2≤(y : Int)∧(y : Int)≤2305843009213693949
 ·have hd : (decide (2≤(y : Int)) && decide ((y : Int)≤2305843009213693949)) = true:=by simp; omega
  by_cases h2 : p.length = 0
  ·refine jQ fun K hK=>?_
   refine acallk (powerRight_calls y s) ?_
   rintro r s' ⟨rfl,rfl⟩
   rw [hd]
   refine jV (Ai @h2 (show (((0 : Nat) : Int) == 0) = true from rfl)) hK ?_;clear hK K
   refine jI ?_
   rw [hr true ⟨fun _=>rfl,fun _=>⟨by simp only; omega,by simp only; omega,.inl h2⟩⟩]
   exact ⟨_,_,AV.weak.refl _,AS.le.refl _,rfl,rfl⟩
  ·by_cases h3 : p.length = 32
   ·refine jQ fun K hK=>?_
    refine acallk (powerRight_calls y s) ?_
    rintro r s' ⟨rfl,rfl⟩
    rw [hd]
    refine jV (Ai @h3 (Ai (show (((32 : Nat) : Int) == 0) = false from rfl) (show (((32 : Nat) : Int) == 32) = true from rfl))) hK ?_;clear hK K
    refine jI ?_
    rw [hr true ⟨fun _=>rfl,fun _=>⟨by simp only; omega,by simp only; omega,.inr h3⟩⟩]
    exact ⟨_,_,AV.weak.refl _,AS.le.refl _,rfl,rfl⟩
   ·refine jQ fun K hK=>?_
    refine acallk (powerRight_calls y s) ?_
    rintro r s' ⟨rfl,rfl⟩
    rw [hd]
    refine jV (Ai (int_eq_no (show (p.length : Int)≠0 by omega)) (int_eq_no (show (p.length : Int)≠32 by omega))) hK ?_;clear hK K
    refine jI ?_
    rw [hr false ⟨fun h=>by have:=h.2.2; simp only at this; omega,fun h=>by cases h⟩]
    exact ⟨_,_,AV.weak.refl _,AS.le.refl _,rfl,rfl⟩
 ·have hd : (decide (2≤(y : Int)) && decide ((y : Int)≤2305843009213693949)) = false:=by simp; omega
  refine jQ fun K hK=>?_
  refine acallk (powerRight_calls y s) ?_
  rintro r s' ⟨rfl,rfl⟩
  rw [hd]
  refine jR hK ?_;clear hK K
  refine jI ?_
  rw [hr false ⟨fun h=>by have:=h.1; have:=h.2.1; simp only at *; omega,fun h=>by cases h⟩]
  exact ⟨_,_,AV.weak.refl _,AS.le.refl _,rfl,rfl⟩
theorem noughtN_weak : (AV.agg [.v (.int .i64 0),.v (.slice none 0 0),.v (.int .u64 0),.v (.slice none 0 0),.v (.slice none 0 0)]).weak (.agg NodeV.nought.cells) :=
 AV.weak_agg (.cons (AV.weak.refl _) (.cons AV.weak_nil (.cons (AV.weak.refl _) (.cons AV.weak_nil (.cons AV.weak_nil .nil)))))
theorem nodeRight_calls (N : NodeV) (hl : N.unm.length≤2 ^ 61) (s : AS) : ACalls Tryz.prog Γ 57 [.agg N.cells] s (fun r s'=>r = .v (.bool (decide N.right))∧s' = s):=by
 refine acalls_body Tryz.func57 rfl Tryz.ntmps57 Tryz.results57 (by simp) ?_
 unfold NodeV.cells
 obtain ⟨k,m,y,p,u⟩:=N
 refine awp_reg_frz 1 (by simp [dsts]) ?_
 intro K hK
 simp only [↓DM,pval,DX,Nz,↓DN,Qa,Qb,Qc,Qd,Qe,Qf,Qg,Qh,reduceCtorEq,↓reduceIte,Na,Nb,Nc,Nk,Nf,Ng,Nh,Za,Zb,Zc,TT,intsV]
 intro o ho
 refine hK _ _ o _ (by simp only [upd,Nc,↓reduceIte]) ho ?_
 clear hK K ho
 have hrt : ∀ b,(NodeV.right ⟨k,m,y,p,u⟩↔b = true)→decide (NodeV.right ⟨k,m,y,p,u⟩) = b:=by
  intro b h
  cases b
  ·exact decide_eq_false (fun h2=>by have:=h.1 h2; cases this)
  ·exact decide_eq_true (h.2 rfl)
 refine wK fun K hK=>?_
 refine jA ?_
 refine awp_block ?_
 by_cases h0 : k = 0
 ·refine jB (int_eq_yes h0) ?_
  refine jE ?_
  refine jS @intsV.eq_1 fun K hK=>?_
  refine acallk (ACalls.weaks (.cons (AV.weak.refl _) (.cons noughtN_weak .nil)) (nodeSame_calls ⟨k,m,y,p,u⟩ NodeV.nought hl s)) ?_
  rintro r s' ⟨rfl,rfl⟩
  refine jR hK ?_;clear hK K
  refine awp_ret ?_
  simp only [thenQ,blockQ]
  simp only [retQ,AEnds,aresL,ares,List.toList_toArray,↓upd_same]; try simp only [UP,DF,Nc,↓reduceIte,DT]
  refine ⟨_,_,AV.weak.refl _,AS.le.refl _,?_,rfl⟩
  rw [hrt _ ((right_zero (N:=⟨k,m,y,p,u⟩) h0).trans decide_eq_true_iff.symm)]
 by_cases h1 : k = 1
 ·have hri:=right_one (N:=⟨k,m,y,p,u⟩) h1
  simp only at hri
  rcases ff4 (decide (1≤(m.length : Int))) (decide ((m.length : Int)≤16)) (decide (NodeV.held ⟨k,m,y,p,u⟩)) ((u.length : Int) == 0) with hd | hd | hd | hd | hd
  case inl | inr.inl =>
   refine jB (int_eq_no h0) ?_
   refine jF ?_
   refine jB (int_eq_yes h1) ?_
   refine jE ?_
   refine jB (Ai @hd @intsV.eq_1) ?_
   refine awp_ret ?_
   simp only [thenQ,blockQ]
   simp only [retQ,AEnds,aresL,ares,List.toList_toArray,↓upd_same]; try simp only [UP,DF,Nc,↓reduceIte,DT]
   refine ⟨_,_,AV.weak.refl _,AS.le.refl _,?_,rfl⟩
   simp only [decide_eq_true_eq,decide_eq_false_iff_not,beq_iff_eq] at hd
   rw [hrt false ⟨fun h=>by have:=hri.1 h; omega,fun h=>by cases h⟩]
  all_goals
   refine jB (int_eq_no h0) ?_
   refine jF ?_
   refine jB (int_eq_yes h1) ?_
   refine jE ?_
   refine jS (Ai @hd @intsV.eq_1) fun K hK=>?_
   refine acallk (held_calls ⟨k,m,y,p,u⟩ s) ?_
   rintro r s' ⟨rfl,rfl⟩
   refine jV (Ai @hd @intsV.eq_1) hK ?_;clear hK K
   refine awp_ret ?_
   simp only [thenQ,blockQ]
   simp only [retQ,AEnds,aresL,ares,List.toList_toArray,↓upd_same]; try simp only [UP,DF,Nc,↓reduceIte,DT]
   refine ⟨_,_,AV.weak.refl _,AS.le.refl _,?_,rfl⟩
   simp only [decide_eq_true_eq,decide_eq_false_iff_not,beq_iff_eq,beq_eq_false_iff_ne] at hd
  ·rw [hrt false ⟨fun h=>absurd (hri.1 h).2.2.1 hd.2.2,fun h=>by cases h⟩]
  ·rw [hrt false ⟨fun h=>by have:=(hri.1 h).2.2.2; omega,fun h=>by cases h⟩]
  ·rw [hrt true ⟨fun _=>rfl,fun _=>hri.2 ⟨by omega,by omega,hd.2.2.1,by omega⟩⟩]
 by_cases h2 : k = 2
 ·have hri:=right_two (N:=⟨k,m,y,p,u⟩) h2
  simp only at hri hl
  rcases ff3 ((m.length : Int) == 0) (decide (NodeV.held ⟨k,m,y,p,u⟩)) (decide (Rising u)) with hd | hd | hd | hd
  all_goals
   refine jB (int_eq_no h0) ?_
   refine jF ?_
   refine jB (int_eq_no h1) ?_
   refine jF ?_
   refine jB (int_eq_yes h2) ?_
   refine jE ?_
  ·refine jB (Ai @hd @intsV.eq_1) ?_
   refine awp_ret ?_
   simp only [thenQ,blockQ]
   simp only [retQ,AEnds,aresL,ares,List.toList_toArray,↓upd_same]; try simp only [UP,DF,Nc,↓reduceIte,DT]
   refine ⟨_,_,AV.weak.refl _,AS.le.refl _,?_,rfl⟩
   simp only [beq_eq_false_iff_ne] at hd
   rw [hrt false ⟨fun h=>by have:=(hri.1 h).1; omega,fun h=>by cases h⟩]
  ·refine jS (Ai @hd @intsV.eq_1) fun K hK=>?_
   refine acallk (held_calls ⟨k,m,y,p,u⟩ s) ?_
   rintro r s' ⟨rfl,rfl⟩
   refine jV (Ai @hd @intsV.eq_1) hK ?_;clear hK K
   refine awp_ret ?_
   simp only [thenQ,blockQ]
   simp only [retQ,AEnds,aresL,ares,List.toList_toArray,↓upd_same]; try simp only [UP,DF,Nc,↓reduceIte,DT]
   refine ⟨_,_,AV.weak.refl _,AS.le.refl _,?_,rfl⟩
   simp only [decide_eq_false_iff_not] at hd
   rw [hrt false ⟨fun h=>absurd (hri.1 h).2.1 hd.2,fun h=>by cases h⟩]
  all_goals
   refine jS (Ai @hd @intsV.eq_1) fun K hK=>?_
   refine acallk (held_calls ⟨k,m,y,p,u⟩ s) ?_
   rintro r s' ⟨rfl,rfl⟩
   simp only [↓DM,pval,DX,Nz,↓DN,Qa,Qb,Qc,Qd,Qe,Qf,Qg,Qh,reduceCtorEq,↓reduceIte,Na,Nb,Nc,Nk,Nf,Ng,Nh,Za,Zb,Zc,TT,hd,intsV]
   refine acallk (rising_calls u hl _) ?_
   rintro r s' ⟨rfl,rfl⟩
   refine jV (Ai @hd @intsV.eq_1) hK ?_;clear hK K
   refine awp_ret ?_
   simp only [thenQ,blockQ]
   simp only [retQ,AEnds,aresL,ares,List.toList_toArray,↓upd_same]; try simp only [UP,DF,Nc,↓reduceIte,DT]
   refine ⟨_,_,AV.weak.refl _,AS.le.refl _,?_,rfl⟩
   simp only [decide_eq_true_eq,decide_eq_false_iff_not,beq_iff_eq] at hd
  ·rw [hrt false ⟨fun h=>absurd (hri.1 h).2.2 hd.2.2,fun h=>by cases h⟩]
  ·rw [hrt true ⟨fun _=>rfl,fun _=>hri.2 ⟨by omega,hd.2.1,hd.2.2⟩⟩]
 ·refine jB (int_eq_no h0) ?_
  refine jF ?_
  refine jB (int_eq_no h1) ?_
  refine jF ?_
  refine jB (int_eq_no h2) ?_
  refine jF ?_
  refine awp_skip ?_
  simp only [blockQ,thenQ,if_true,if_false]
  refine hK _ _ ?_;clear hK K
  refine jA ?_
  refine jI ?_
  refine ⟨_,_,AV.weak.refl _,AS.le.refl _,?_,rfl⟩
  rw [hrt false ⟨fun h=>absurd h (right_else (N:=⟨k,m,y,p,u⟩) h0 h1 h2),fun h=>by cases h⟩]
end Go.Proofs.YtfjlmkifiihgkaaGreatDoor
namespace Go.Proofs.YtfjlmkifiihgkaaGreatDoor
open Go Go.AM Go.Proofs
variable {Γ : Nat→List AV}
theorem right_held {N : NodeV} (h0 : N.kind≠0) (h : N.right) : N.held:=by
 unfold NodeV.right at h
 rw [if_neg h0] at h
 split at h
 ·exact h.2.2.1
 ·split at h
  ·exact h.2.1
  ·exact h.elim
theorem refRight19_calls (N : NodeV) (hl : N.unm.length≤2 ^ 61) (s : AS) : ACalls Tryz.prog Γ 59 [.agg N.cells] s (fun r s'=>r = .v (.bool (decide N.right))∧s' = s):=by
 refine acalls_body Tryz.func59 rfl Tryz.ntmps59 Tryz.results59 (by simp) ?_
 unfold NodeV.cells
 obtain ⟨k,m,y,p,u⟩:=N
 simp only at hl
 refine awp_reg_frz 1 (by simp [dsts]) ?_
 intro K hK
 simp only [↓DM,pval,DX,Nz,↓DN,Qa,Qb,Qc,Qd,Qe,Qf,Qg,Qh,reduceCtorEq,↓reduceIte,Na,Nb,Nc,Nk,Nf,Ng,Nh,Za,Zb,Zc,TT,intsV]
 intro o ho
 refine hK _ _ o _ (by simp only [upd,Nc,↓reduceIte]) ho ?_
 clear hK K ho
 have hrt : ∀ b,(NodeV.right ⟨k,m,y,p,u⟩↔b = true)→decide (NodeV.right ⟨k,m,y,p,u⟩) = b:=by
  intro b h
  cases b
  ·exact decide_eq_false (fun h2=>by have:=h.1 h2; cases this)
  ·exact decide_eq_true (h.2 rfl)
 refine wK fun K hK=>?_
 by_cases h0 : k = 0
 ·refine jB (int_eq_yes h0) ?_
  refine jE ?_
  refine jS @intsV.eq_1 fun K hK=>?_
  refine acallk (ACalls.weaks (.cons (AV.weak.refl _) (.cons noughtN_weak .nil)) (refSame19_calls ⟨k,m,y,p,u⟩ NodeV.nought hl s)) ?_
  rintro r s' ⟨rfl,rfl⟩
  refine jR hK ?_;clear hK K
  refine jI ?_
  refine ⟨_,_,AV.weak.refl _,AS.le.refl _,?_,rfl⟩
  rw [hrt _ ((right_zero (N:=⟨k,m,y,p,u⟩) h0).trans decide_eq_true_iff.symm)]
  try rfl
 ·refine jB (int_eq_no h0) ?_
  refine jF ?_
  refine awp_skip ?_
  refine hK _ _ ?_;clear hK K
  refine wK fun K0 hK0=>?_
  refine jQ fun K hK=>?_
  refine acallk (refRight07_calls y s) ?_
  rintro r s' ⟨rfl,rfl⟩
  by_cases hh : NodeV.held ⟨k,m,y,p,u⟩
  ·have hh':=hh
   obtain ⟨e1,e2,e3⟩:=hh'
   simp only at e1 e2 e3
   rw [show (decide (2≤(y : Int)) && decide ((y : Int)≤2305843009213693949)) = true from by simp; omega]
   have hfin : ∀ E2 : Env,E2 1 = .rop [.v (.int .i64 k),.sl 1 m.length (m.map byteV) .any,.v (.int .u64 y),.sl 1 p.length (p.map byteV) .any,.sl 1 u.length (u.map intC) .any]→K0 E2 s':=by
    intro E2 g1
    refine hK0 _ _ ?_;clear hK0 K0 hK K
    refine wK fun K hK=>?_
    by_cases h1 : k = 1
    ·have hri:=right_one (N:=⟨k,m,y,p,u⟩) h1
     simp only at hri
     refine jB (Ai @g1 (int_eq_yes h1)) ?_
     refine jE ?_
     rcases ff3 (decide (1≤(m.length : Int))) (decide ((m.length : Int)≤16)) ((u.length : Int) == 0) with hd | hd | hd | hd
     all_goals
      refine jB (Ai @g1 @hd) ?_
      refine jI ?_
      refine ⟨_,_,AV.weak.refl _,AS.le.refl _,?_,rfl⟩
      simp only [decide_eq_true_eq,decide_eq_false_iff_not,beq_iff_eq,beq_eq_false_iff_ne] at hd
     ·rw [hrt false ⟨fun h=>by have:=hri.1 h; omega,fun h=>by cases h⟩]
      try rfl
     ·rw [hrt false ⟨fun h=>by have:=hri.1 h; omega,fun h=>by cases h⟩]
      try rfl
     ·rw [hrt false ⟨fun h=>by have:=(hri.1 h).2.2.2; omega,fun h=>by cases h⟩]
      try rfl
     ·rw [hrt true ⟨fun _=>rfl,fun _=>hri.2 ⟨by omega,by omega,hh,by omega⟩⟩]
      try rfl
    ·refine jB (Ai @g1 (int_eq_no h1)) ?_
     refine jF ?_
     refine awp_skip ?_
     refine hK _ _ ?_;clear hK K
     refine wK fun K hK=>?_
     by_cases h2 : k = 2
     ·have hri:=right_two (N:=⟨k,m,y,p,u⟩) h2
      simp only at hri
      by_cases hm : (0 : Int) < (m.length : Int)
      ·refine jB (Ai @g1 (Ai (int_bne_false h2) (decide_eq_true hm))) ?_
       refine jE ?_
       refine jA ?_
       refine jI ?_
       refine ⟨_,_,AV.weak.refl _,AS.le.refl _,?_,rfl⟩
       rw [hrt false ⟨fun h=>by have:=(hri.1 h).1; omega,fun h=>by cases h⟩]
       try rfl
      ·refine jB (Ai @g1 (Ai (int_bne_false h2) (decide_eq_false hm))) ?_
       refine jF ?_
       refine awp_skip ?_
       refine hK _ _ ?_;clear hK K
       refine wK fun K hK=>?_
       refine jB @g1 ?_
       refine awp_block ?_
       refine awp_loop (fun E s1=>∃ i : Nat,i≤u.length∧E 3 = .v (.int .i64 i)∧E 1 = .rop [.v (.int .i64 k),.sl 1 m.length (m.map byteV) .any,.v (.int .u64 y),.sl 1 p.length (p.map byteV) .any,.sl 1 u.length (u.map intC) .any]∧(∀ j,j < i→okAt u j)∧s1 = s')
        (fun E _=>match E 3 with | .v (.int _ i)=>u.length - i.toNat | _=>0) ?_ ?_
       ·exact ⟨0,Nat.zero_le _,by simp only [upd,↓reduceIte]; rfl,by simp only [upd,g1,Nc,↓reduceIte],by simp,rfl⟩
       ·rintro E3 s1 ⟨i,hi,h3,hE1,hall,rfl⟩ -
        refine wK fun K2 hK2=>?_
        by_cases hi' : i < u.length
        ·refine jB (Ai @h3 (Ai @hE1 (Ai @eye_lt_nat (decide_eq_true hi')))) ?_
         refine jE ?_
         refine awp_skip ?_
         refine hK2 _ _ ?_;clear hK2 K2
         refine wK fun K3 hK3=>?_
         refine awp_block ?_
         have hge : (0 : Int)≤(i : Int):=by omega
         have hat:=eat_int hi'
         have hok : (okAt u i)→∀ E4 : Env,E4 3 = .v (.int .i64 i)→E4 1 = .rop [.v (.int .i64 k),.sl 1 m.length (m.map byteV) .any,.v (.int .u64 y),.sl 1 p.length (p.map byteV) .any,.sl 1 u.length (u.map intC) .any]→K3 E4 s1:=by
          intro ho E4 g3 g41
          refine hK3 _ _ ?_;clear hK3 K3
          refine jD (Ai @g3 (eye_succ i (by omega))) ?_
          refine ⟨⟨i + 1,by omega,by simp only [upd,↓reduceIte],by simp only [upd,g41,Nc,↓reduceIte],?_,rfl⟩,?_⟩
          ·intro j hj
           by_cases hji : j < i
           ·exact hall j hji
           ·obtain rfl : j = i:=by omega
            exact ho
          ·simp only [h3,upd,↓reduceIte]
           omega
         clear hK3
         have hbad : ¬ okAt u i→decide (NodeV.right ⟨k,m,y,p,u⟩) = false:=fun h=>hrt false ⟨fun hr=>absurd ((hri.1 hr).2.2 i hi') h,fun h=>by cases h⟩
         by_cases q1 : u[i] < 0
         ·refine awp_drw_seq T.mixed [] (by kernel_rfl) ?_
          intro K hK
          refine jV (Ai @h3 (Ai @hE1 (Ai @hge (Ai @eye_lt_nat (Ai @hi' (Ai @hat (decide_eq_true q1))))))) hK ?_;clear hK K
          refine jE ?_
          refine jA ?_
          refine awp_ret ?_
          simp only [thenQ,blockQ]
          simp only [retQ,AEnds,aresL,ares,List.toList_toArray,↓upd_same]; try simp only [UP,DF,Nc,↓reduceIte,DT]
          rw [hbad (fun h=>by have:=okAt_get hi' h; omega)]
          exact ⟨_,_,AV.weak.refl _,AS.le.refl _,rfl,rfl⟩
         by_cases q2 : 31 < u[i]
         ·refine awp_drw_seq T.mixed [] (by kernel_rfl) ?_
          intro K hK
          refine jV (Ai @h3 (Ai @hE1 (Ai @hge (Ai @eye_lt_nat (Ai @hi' (Ai @hat (Ai (decide_eq_false q1) (decide_eq_true q2)))))))) hK ?_;clear hK K
          refine jE ?_
          refine jA ?_
          refine awp_ret ?_
          simp only [thenQ,blockQ]
          simp only [retQ,AEnds,aresL,ares,List.toList_toArray,↓upd_same]; try simp only [UP,DF,Nc,↓reduceIte,DT]
          rw [hbad (fun h=>by have:=okAt_get hi' h; omega)]
          exact ⟨_,_,AV.weak.refl _,AS.le.refl _,rfl,rfl⟩
         by_cases q3 : (0 : Int) < (i : Int)
         ·have hj : i - 1 < u.length:=by omega
          have hsub : isub .i64 (i : Int) 1 = ((i - 1 : Nat) : Int):=by rw [isub_i64 (by omega)]; omega
          have hat2:=eat_int hj
          have hge2 : (0 : Int)≤((i - 1 : Nat) : Int):=by omega
          by_cases q4 : u[i]≤u[i - 1]
          ·refine awp_drw_seq T.mixed [] (by kernel_rfl) ?_
           intro K hK
           refine jV (Ai @h3 (Ai @hE1 (Ai @hge (Ai @eye_lt_nat (Ai @hi' (Ai @hat (Ai (decide_eq_false q1) (Ai (decide_eq_false q2) (Ai (decide_eq_true q3) (Ai @hsub (Ai @hge2 (Ai @hj (Ai @hat2 (decide_eq_true q4)))))))))))))) hK ?_;clear hK K
           refine jE ?_
           refine jA ?_
           refine awp_ret ?_
           simp only [thenQ,blockQ]
           simp only [retQ,AEnds,aresL,ares,List.toList_toArray,↓upd_same]; try simp only [UP,DF,Nc,↓reduceIte,DT]
           rw [hbad (fun h=>by have:=(okAt_get hi' h).2.2 (by omega); omega)]
           exact ⟨_,_,AV.weak.refl _,AS.le.refl _,rfl,rfl⟩
          ·refine awp_drw_seq T.mixed [] (by kernel_rfl) ?_
           intro K hK
           refine jV (Ai @h3 (Ai @hE1 (Ai @hge (Ai @eye_lt_nat (Ai @hi' (Ai @hat (Ai (decide_eq_false q1) (Ai (decide_eq_false q2) (Ai (decide_eq_true q3) (Ai @hsub (Ai @hge2 (Ai @hj (Ai @hat2 (decide_eq_false q4)))))))))))))) hK ?_;clear hK K
           refine jF ?_
           refine awp_skip ?_
           simp only [blockQ,thenQ,if_true,if_false]
           exact hok (okAt_of hi' (by omega) (by omega) (fun _=>by omega)) _ (by simp only [upd,h3,Nc,↓reduceIte]) (by simp only [upd,hE1,Nc,↓reduceIte])
         ·refine awp_drw_seq T.mixed [] (by kernel_rfl) ?_
          intro K hK
          refine jV (Ai @h3 (Ai @hE1 (Ai @hge (Ai @eye_lt_nat (Ai @hi' (Ai @hat (Ai (decide_eq_false q1) (Ai (decide_eq_false q2) (decide_eq_false q3))))))))) hK ?_;clear hK K
          refine jF ?_
          refine awp_skip ?_
          simp only [blockQ,thenQ,if_true,if_false]
          exact hok (okAt_of hi' (by omega) (by omega) (fun q=>by omega)) _ (by simp only [upd,h3,Nc,↓reduceIte]) (by simp only [upd,hE1,Nc,↓reduceIte])
        ·refine jB (Ai @h3 (Ai @hE1 (Ai @eye_lt_nat (decide_eq_false hi')))) ?_
         refine jF ?_
         refine awp_exit ?_
         simp only [thenQ,blockQ,if_true]
         refine hK _ _ ?_;clear hK hK2 K K2
         refine jA ?_
         refine jI ?_
         refine ⟨_,_,AV.weak.refl _,AS.le.refl _,?_,rfl⟩
         rw [hrt true ⟨fun _=>rfl,fun _=>hri.2 ⟨by omega,hh,fun j hj=>hall j (by omega)⟩⟩]
         try rfl
     ·refine jB (Ai @g1 (int_bne_true h2)) ?_
      refine jE ?_
      refine jA ?_
      refine jI ?_
      refine ⟨_,_,AV.weak.refl _,AS.le.refl _,?_,rfl⟩
      rw [hrt false ⟨fun h=>absurd h (right_else (N:=⟨k,m,y,p,u⟩) h0 h1 h2),fun h=>by cases h⟩]
      try rfl
   clear hK0
   rcases e3 with e3 | e3
   ·refine jV (Ai @e3 (show (((0 : Nat) : Int) != 0) = false from rfl)) hK ?_;clear hK K
    refine jF ?_
    refine awp_skip ?_
    exact hfin _ (by simp only [upd,Nc,↓reduceIte,e3])
   ·refine jV (Ai @e3 (Ai (show (((32 : Nat) : Int) != 0) = true from rfl) (show (((32 : Nat) : Int) != 32) = false from rfl))) hK ?_;clear hK K
    refine jF ?_
    refine awp_skip ?_
    exact hfin _ (by simp only [upd,Nc,↓reduceIte,e3])
  ·have hnr : decide (NodeV.right ⟨k,m,y,p,u⟩) = false:=hrt false ⟨fun h=>absurd (right_held (N:=⟨k,m,y,p,u⟩) h0 h) hh,fun h=>by cases h⟩
   by_cases e1 : 2≤(y : Int)∧(y : Int)≤2305843009213693949
   ·have e3 : ¬ (p.length = 0∨p.length = 32):=fun e=>hh ⟨by simp only; omega,by simp only; omega,e⟩
    rw [show (decide (2≤(y : Int)) && decide ((y : Int)≤2305843009213693949)) = true from by simp; omega]
    refine jV (Ai (int_bne_true (show (p.length : Int)≠0 by omega)) (int_bne_true (show (p.length : Int)≠32 by omega))) hK ?_;clear hK K
    refine jE ?_
    refine jA ?_
    refine jI ?_
    rw [hnr]
    exact ⟨_,_,AV.weak.refl _,AS.le.refl _,rfl,rfl⟩
   ·rw [show (decide (2≤(y : Int)) && decide ((y : Int)≤2305843009213693949)) = false from by simp; omega]
    refine jR hK ?_;clear hK K
    refine jE ?_
    refine jA ?_
    refine jI ?_
    rw [hnr]
    exact ⟨_,_,AV.weak.refl _,AS.le.refl _,rfl,rfl⟩
end Go.Proofs.YtfjlmkifiihgkaaGreatDoor
namespace Go.Proofs.YtfjlmkifiihgkaaGreatDoor
open Go Go.AM Go.Proofs
variable {Γ : Nat→List AV}
def nodePen (N : NodeV) (st : List UInt8 × Bool) : List UInt8 × Bool:=if N.right then penRaw N.text st else (st.1,true)
theorem nodeWrite_calls (N : NodeV) (hl : N.unm.length≤2 ^ 61) (s0 s : AS) (p : Nat) (st : List UInt8 × Bool) (hst : st.1.length + 200≤2 ^ 45) (h : PenS s0 s p st) :
  ACalls Tryz.prog Γ 196 [.ptr p 0,.agg N.cells] s (fun r s'=>r = .tup []∧PenS s0 s' p (nodePen N st)):=by
 refine acalls_body Tryz.func196 rfl Tryz.ntmps196 Tryz.results196 (by simp) ?_
 unfold NodeV.cells
 obtain ⟨k,m,y,pa,u⟩:=N
 refine awp_reg_frz 3 (by simp [dsts]) ?_
 intro K hK
 simp only [↓DM,pval,DX,Nz,↓DN,Qa,Qb,Qc,Qd,Qe,Qf,Qg,Qh,reduceCtorEq,↓reduceIte,Na,Nb,Nc,Nk,Nf,Ng,Nh,Za,Zb,Zc,TT,intsV]
 intro o ho
 refine hK _ _ o _ (by simp only [upd,Nc,↓reduceIte]) ho ?_
 clear hK K ho
 refine wK fun K hK=>?_
 refine jQ fun K hK=>?_
 refine acallk (nodeRight_calls ⟨k,m,y,pa,u⟩ hl s) ?_
 rintro r s' ⟨rfl,rfl⟩
 have hlen : ∀ a,(penRaw a st).1.length≤st.1.length + a.length:=fun a=>penRaw_len a st
 by_cases hr : NodeV.right ⟨k,m,y,pa,u⟩
 ·rw [decide_eq_true hr]
  refine jR hK ?_;clear hK K
  refine jF ?_
  refine awp_skip ?_
  refine hK _ _ ?_;clear hK K
  have hpen : nodePen ⟨k,m,y,pa,u⟩ st = penRaw (NodeV.text ⟨k,m,y,pa,u⟩) st:=if_pos hr
  rw [hpen]
  rcases node_kind hr with hk | hk | hk
  ·simp only at hk
   subst hk
   refine jQ fun K hK=>?_
   refine acallk (penU8_calls s0 s' p st ((0 : Nat) : Int) (by omega) (by omega) h) ?_
   rintro r s1 ⟨rfl,q1⟩
   rw [penSmall_raw (by decide)] at q1
   refine jR hK ?_;clear hK K
   refine wK fun K hK=>?_
   refine wS fun K hK=>?_
   simp only [↓DN,Qa,Qb,Qc,Qd,Qe,Qf,Qg,Qh,reduceCtorEq,↓reduceIte,Na,Nb,Nc,Nk,Nf,Ng,Nh,Za,Zb,Zc,TT,Int.reduceBEq]
   refine hK _ _ ?_;clear hK K
   refine jE ?_
   refine jI ?_
   exact ⟨_,_,AV.weak.refl _,AS.le.refl _,rfl,q1⟩
  ·obtain ⟨h1,h2,⟨h3,h4,h5⟩,h6⟩:=(right_one hk).1 hr
   simp only at hk h1 h2 h3 h4 h5 h6
   subst hk
   refine jQ fun K hK=>?_
   refine acallk (penU8_calls s0 s' p st ((1 : Nat) : Int) (by omega) (by omega) h) ?_
   rintro r s1 ⟨rfl,q1⟩
   rw [penSmall_raw (by decide)] at q1
   refine jR hK ?_;clear hK K
   refine wK fun K hK=>?_
   refine wS fun K hK=>?_
   simp only [↓DN,Qa,Qb,Qc,Qd,Qe,Qf,Qg,Qh,reduceCtorEq,↓reduceIte,Na,Nb,Nc,Nk,Nf,Ng,Nh,Za,Zb,Zc,TT,Int.reduceBEq]
   refine hK _ _ ?_;clear hK K
   refine jF ?_
   refine awp_skip ?_
   refine hK _ _ ?_;clear hK K
   refine wK fun K hK=>?_
   refine wS fun K hK=>?_
   simp only [↓DN,Qa,Qb,Qc,Qd,Qe,Qf,Qg,Qh,reduceCtorEq,↓reduceIte,Na,Nb,Nc,Nk,Nf,Ng,Nh,Za,Zb,Zc,TT,Int.reduceBEq]
   refine hK _ _ ?_;clear hK K
   refine jE ?_
   refine jT fun K hK=>?_
   refine acallk (penShort_calls s0 s1 p _ _ m (IsB.any m) (by have:=hlen (be 1 1); simp at this ⊢; omega) q1) ?_
   rintro r s2 ⟨rfl,q2⟩
   rw [penText_raw (by omega),penRaw_raw] at q2
   refine jR hK ?_;clear hK K
   refine hK _ _ ?_;clear hK K
   refine jQ fun K hK=>?_
   refine acallk (penU64_calls s0 s2 p _ y (by omega) (by refine Nat.le_trans (Nat.add_le_add_right (hlen _) _) ?_; simp; omega) q2) ?_
   rintro r s3 ⟨rfl,q3⟩
   rw [penNum_raw,penRaw_raw] at q3
   refine jR hK ?_;clear hK K
   refine jQ fun K hK=>?_
   refine acallk (penShort_calls s0 s3 p _ _ pa (IsB.any pa) (by refine Nat.le_trans (Nat.add_le_add_right (Nat.add_le_add_right (hlen _) _) _) ?_; simp; omega) q3) ?_
   rintro r s4 ⟨rfl,q4⟩
   rw [penText_raw (by omega),penRaw_raw] at q4
   refine jR hK ?_;clear hK K
   refine wS fun K hK=>?_
   simp only [↓DN,Qa,Qb,Qc,Qd,Qe,Qf,Qg,Qh,reduceCtorEq,↓reduceIte,Na,Nb,Nc,Nk,Nf,Ng,Nh,Za,Zb,Zc,TT,Int.reduceBEq]
   refine hK _ _ ?_;clear hK K
   refine jF ?_
   refine awp_skip ?_
   simp only [retQ,AEnds,aresL,ares,List.toList_toArray,↓upd_same]; try simp only [UP,DF,Nc,↓reduceIte,DT]
   refine ⟨_,_,AV.weak.refl _,AS.le.refl _,rfl,?_⟩
   rw [show NodeV.text ⟨1,m,y,pa,u⟩ = be 1 1 ++ (be 1 m.length ++ m) ++ be 8 y ++ (be 1 pa.length ++ pa) from rfl]
   exact q4
  ·obtain ⟨h1,⟨h3,h4,h5⟩,h6⟩:=(right_two hk).1 hr
   simp only at hk h1 h3 h4 h5 h6
   subst hk
   have hu:=rising_len h6
   refine jQ fun K hK=>?_
   refine acallk (penU8_calls s0 s' p st ((2 : Nat) : Int) (by omega) (by omega) h) ?_
   rintro r s1 ⟨rfl,q1⟩
   rw [penSmall_raw (by decide)] at q1
   refine jR hK ?_;clear hK K
   refine wK fun K hK=>?_
   refine wS fun K hK=>?_
   simp only [↓DN,Qa,Qb,Qc,Qd,Qe,Qf,Qg,Qh,reduceCtorEq,↓reduceIte,Na,Nb,Nc,Nk,Nf,Ng,Nh,Za,Zb,Zc,TT,Int.reduceBEq]
   refine hK _ _ ?_;clear hK K
   refine jF ?_
   refine awp_skip ?_
   refine hK _ _ ?_;clear hK K
   refine wK fun K hK=>?_
   refine wS fun K hK=>?_
   simp only [↓DN,Qa,Qb,Qc,Qd,Qe,Qf,Qg,Qh,reduceCtorEq,↓reduceIte,Na,Nb,Nc,Nk,Nf,Ng,Nh,Za,Zb,Zc,TT,Int.reduceBEq]
   refine hK _ _ ?_;clear hK K
   refine jF ?_
   refine awp_skip ?_
   refine hK _ _ ?_;clear hK K
   refine jQ fun K hK=>?_
   refine acallk (penU64_calls s0 s1 p _ y (by omega) (by refine Nat.le_trans (Nat.add_le_add_right (hlen _) _) ?_; simp; omega) q1) ?_
   rintro r s3 ⟨rfl,q3⟩
   rw [penNum_raw,penRaw_raw] at q3
   refine jR hK ?_;clear hK K
   refine jQ fun K hK=>?_
   refine acallk (penShort_calls s0 s3 p _ _ pa (IsB.any pa) (by refine Nat.le_trans (Nat.add_le_add_right (Nat.add_le_add_right (hlen _) _) _) ?_; simp; omega) q3) ?_
   rintro r s4 ⟨rfl,q4⟩
   rw [penText_raw (by omega),penRaw_raw] at q4
   refine jR hK ?_;clear hK K
   refine wS fun K hK=>?_
   simp only [↓DN,Qa,Qb,Qc,Qd,Qe,Qf,Qg,Qh,reduceCtorEq,↓reduceIte,Na,Nb,Nc,Nk,Nf,Ng,Nh,Za,Zb,Zc,TT,Int.reduceBEq]
   refine hK _ _ ?_;clear hK K
   refine jE ?_
   refine jQ fun K hK=>?_
   refine acallk (penU8_calls s0 s4 p _ (u.length : Int) (by omega) (by refine Nat.le_trans (Nat.add_le_add_right (hlen _) _) ?_; simp; omega) q4) ?_
   rintro r s5 ⟨rfl,q5⟩
   rw [penSmall_raw (by omega),penRaw_raw] at q5
   obtain ⟨A,hA⟩ : ∃ A,A = be 1 2 ++ be 8 y ++ (be 1 pa.length ++ pa) ++ be 1 u.length:=⟨_,rfl⟩
   have hAl : A.length≤50:=by rw [hA]; simp; omega
   rw [← hA] at q5
   have htx : NodeV.text ⟨2,m,y,pa,u⟩ = A ++ intsText u:=by rw [hA]; rfl
   refine jR hK ?_;clear hK K
   refine jA ?_
   refine awp_block ?_
   refine awp_loop (fun E s2=>∃ i : Nat,i≤u.length∧E 44 = .v (.int .i64 i)∧E 43 = .v (.int .i64 u.length)∧E 42 = .sl 1 u.length (u.map intC) .any∧E 0 = .ptr p 0∧PenS s0 s2 p (penRaw (A ++ intsText (u.take i)) st))
    (fun E _=>match E 44 with | .v (.int _ i)=>u.length - i.toNat | _=>0) ?_ ?_
   ·exact ⟨0,Nat.zero_le _,by simp only [upd,↓reduceIte]; rfl,by simp only [upd,Nc,↓reduceIte],by simp only [upd,Nc,↓reduceIte],by simp only [upd,initE,Nc,↓reduceIte,List.getD_cons_zero],by simpa [intsText] using q5⟩
   ·rintro E1 s6 ⟨i,hi,g44,g43,g42,g0,q6⟩ -
    by_cases hi' : i < u.length
    ·refine jB (Ai @g44 (Ai @g43 (Ai @eye_lt_nat (decide_eq_true hi')))) ?_
     refine wK fun K2 hK2=>?_
     refine jE ?_
     refine awp_skip ?_
     refine hK2 _ _ ?_;clear hK2 K2
     refine wK fun K3 hK3=>?_
     refine awp_block ?_
     have hge : (0 : Int)≤(i : Int):=by omega
     have hat:=eat_int hi'
     have hx:=rising_mem h6 (List.getElem_mem hi')
     refine jB (Ai @g44 (Ai @g42 (Ai @hge (Ai @eye_lt_nat (Ai @hi' @hat))))) ?_
     refine jU @g0 fun K hK=>?_
     have hxn : u[i] = ((u[i]).toNat : Int):=by omega
     refine acallk (penU8_calls s0 s6 p _ u[i] (by omega) (by refine Nat.le_trans (Nat.add_le_add_right (hlen _) _) ?_; simp [intsText_len]; omega) q6) ?_
     rintro r s7 ⟨rfl,q7⟩
     rw [hxn,penSmall_raw (by omega),penRaw_raw,List.append_assoc,← intsText_snoc,← List.take_succ_eq_append_getElem hi'] at q7
     refine jR hK ?_;clear hK K
     simp only [blockQ,thenQ,if_true,if_false]
     refine hK3 _ _ ?_;clear hK3 K3
     refine jD (Ai @g44 (eye_succ i (by omega))) ?_
     refine ⟨⟨i + 1,by omega,by simp only [upd,↓reduceIte],by simp only [upd,g43,Nc,↓reduceIte],by simp only [upd,g42,Nc,↓reduceIte],by simp only [upd,g0,Nc,↓reduceIte],q7⟩,?_⟩
     simp only [g44,upd,↓reduceIte]
     omega
    ·refine jB (Ai @g44 (Ai @g43 (Ai @eye_lt_nat (decide_eq_false hi')))) ?_
     refine wK fun K2 hK2=>?_
     refine jF ?_
     refine awp_exit ?_
     simp only [thenQ,blockQ,if_true]
     simp only [retQ,AEnds,aresL,ares,List.toList_toArray,↓upd_same]; try simp only [UP,DF,Nc,↓reduceIte,DT]
     refine ⟨_,_,AV.weak.refl _,AS.le.refl _,rfl,?_⟩
     rw [List.take_of_length_le (by omega)] at q6
     rw [htx]
     exact q6
 ·rw [decide_eq_false hr]
  refine jR hK ?_;clear hK K
  refine jE ?_
  refine jQ fun K hK=>?_
  refine acallk (penU8_calls s0 s' p st (-1) (by omega) (by omega) h) ?_
  rintro r s1 ⟨rfl,q1⟩
  refine jR hK ?_;clear hK K
  refine jI ?_
  refine ⟨_,_,AV.weak.refl _,AS.le.refl _,rfl,?_⟩
  rw [show nodePen ⟨k,m,y,pa,u⟩ st = penSmall 1 (-1) st from (if_neg hr).trans (if_neg (by omega)).symm]
  exact q1
end Go.Proofs.YtfjlmkifiihgkaaGreatDoor
