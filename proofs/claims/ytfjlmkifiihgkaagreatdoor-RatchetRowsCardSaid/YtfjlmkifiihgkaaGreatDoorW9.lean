/- Contracts of the program's functions, each walked once; the conditions stand in each theorem. -/
import Derived.Test.YtfjlmkifiihgkaaGreatDoorAMp6
import Derived.Test.YtfjlmkifiihgkaaGreatDoorW1
import Derived.Test.YtfjlmkifiihgkaaGreatDoorW4
import Derived.Test.YtfjlmkifiihgkaaGreatDoorW8
import Derived.Test.YtfjlmkifiihgkaaGreatDoorW7
import Derived.Test.YtfjlmkifiihgkaaGreatDoorW5
set_option linter.unusedSimpArgs false
set_option linter.unusedVariables false
open Nat renaming reduceLT → Na, reduceLeDiff → Nb, reduceEqDiff → Nc, reduceAdd → Nk, reduceMul → Nf, reducePow → Ng, reduceSub → Nh, reduceBEq → Nz
open Int renaming reduceLT → Za, reduceLE → Zb, reduceToNat → Zc
open And renaming intro → Ai
open Go.AM renaming ashift → Qa, aconv → Qb, aindexAddr → Qc, aindex → Qd, aslice → Qe, abuiltin → Qf, awp_reg_seq → wS, awp_reg_end → wE, awp_seq_k → wK, awp_cond_k → wC
open Go.AM.AV renaming cells → Qg, one → Qh
set_option maxRecDepth 100000
set_option maxHeartbeats 8000000
set_option autoImplicit false
namespace Go.Proofs.YtfjlmkifiihgkaaGreatDoor
open Go Go.AM Go.Proofs
variable {Γ : Nat→List AV}
theorem k102 : callable Tryz.prog 214 = true:=by kernel_rfl
theorem k105 : callable Tryz.prog 216 = true:=by kernel_rfl
theorem penSmall_len (k : Nat) (n : Int) (st : List UInt8 × Bool) : (penSmall k n st).1.length≤st.1.length + k:=by
 unfold penSmall penNum
 split
 ·split
  ·omega
  ·simp
 ·simp only; omega
theorem leafClo_calls (number : Int) (hn : -9223372036854775808≤number∧number≤9223372036854775807) (N : NodeV) (hl : N.unm.length≤2 ^ 61) (s0 s : AS) (p : Nat) (st : List UInt8 × Bool) (hst : st.1.length≤100) (h : PenS s0 s p st) :
  ACalls Tryz.prog Γ 214 [.ptr p 0,.rop [.v (.int .i64 number)],.rop N.cells] s (fun r s'=>r = .tup []∧PenS s0 s' p (nodePen N (penSmall 4 number st))):=by
 refine acalls_body Tryz.func214 rfl Tryz.ntmps214 Tryz.results214 (by simp) ?_
 have hw:=nodeWrite_calls (Γ:=Γ) N hl
 unfold NodeV.cells at *
 refine jQ fun K hK=>?_
 refine acallk (penU32_calls s0 s p st number hn (by omega) h) ?_
 rintro r s1 ⟨rfl,h1⟩
 refine jR hK ?_;clear hK K
 have hl4:=penSmall_len 4 number st
 refine jU @intsV.eq_1 fun K hK=>?_
 refine acallk (hw s0 s1 p _ (by omega) h1) ?_
 rintro r s2 ⟨rfl,h2⟩
 refine jR hK ?_;clear hK K
 simp only [retQ,AEnds,aresL,ares,List.toList_toArray,↓upd_same]; try simp only [UP,DF,Nc,↓reduceIte,DT]
 exact ⟨_,_,AV.weak.refl _,AS.le.refl _,rfl,h2⟩
theorem branchClo_calls (N : NodeV) (hl : N.unm.length≤2 ^ 61) (s0 s : AS) (p : Nat) (st : List UInt8 × Bool) (hst : st.1.length≤100) (h : PenS s0 s p st) :
  ACalls Tryz.prog Γ 216 [.ptr p 0,.rop N.cells] s (fun r s'=>r = .tup []∧PenS s0 s' p (nodePen N st)):=by
 refine acalls_body Tryz.func216 rfl Tryz.ntmps216 Tryz.results216 (by simp) ?_
 have hw:=nodeWrite_calls (Γ:=Γ) N hl
 unfold NodeV.cells at *
 refine jU @intsV.eq_1 fun K hK=>?_
 refine acallk (hw s0 s p _ (by omega) h) ?_
 rintro r s2 ⟨rfl,h2⟩
 refine jR hK ?_;clear hK K
 simp only [retQ,AEnds,aresL,ares,List.toList_toArray,↓upd_same]; try simp only [UP,DF,Nc,↓reduceIte,DT]
 exact ⟨_,_,AV.weak.refl _,AS.le.refl _,rfl,h2⟩
theorem octets19_calls (mark : Nat) (hm : mark < 256) (k : FuncId) (caps : List AV) (hk : callable Tryz.prog k = true) (F : List UInt8 × Bool)
  (hF : ∀ s0 s p,PenS s0 s p ([UInt8.ofNat mark],false)→ACalls Tryz.prog Γ k (.ptr p 0 :: caps) s (fun r s'=>r = .tup []∧PenS s0 s' p F)) (hl : F.1.length≤2 ^ 45) (s : AS) :
  ACalls Tryz.prog Γ 213 [.v (.int .i64 (mark : Int)),.clo k caps] s (fun r s'=>r = .tup [bytesV (if F.2 = true then [] else F.1) .any,.v (.bool !F.2)]∧s' = s):=by
 refine acalls_body Tryz.func213 rfl Tryz.ntmps213 Tryz.results213 (by simp) ?_
 have h0 : penSmall 1 (mark : Int) ([],false) = ([UInt8.ofNat mark],false):=by
  unfold penSmall
  rw [if_pos ⟨by omega,by omega⟩]
  simp [penNum,be]
 refine jA ?_
 refine jQ fun K hK=>?_
 refine acallk (new_calls s) ?_
 rintro r s1 ⟨p,rfl,q1⟩
 refine jR hK ?_;clear hK K
 refine jQ fun K hK=>?_
 refine acallk (penU8_calls s s1 p ([],false) (mark : Int) (by omega) (by simp) q1) ?_
 rintro r s2 ⟨rfl,q2⟩
 rw [h0] at q2
 refine jR hK ?_;clear hK K
 refine jS @hk fun K hK=>?_
 refine acallk (hF s s2 p q2) ?_
 rintro r s3 ⟨rfl,q3⟩
 refine jR hK ?_;clear hK K
 refine jK (penBytes_calls s s3 p _ hl q3) ?_;rintro s4 rfl
 refine jI ?_
 exact ⟨_,s,AV.weak.refl _,q3.le,rfl,rfl⟩
end Go.Proofs.YtfjlmkifiihgkaaGreatDoor
namespace Go.Proofs.YtfjlmkifiihgkaaGreatDoor
open Go Go.AM Go.Proofs
variable {Γ : Nat→List AV}
def leafB (number : Int) (N : NodeV) : List UInt8:=1 :: (be 4 number.toNat ++ N.text)
def branchB (N : NodeV) (l r : List UInt8) : List UInt8:=2 :: (N.text ++ (l ++ r))
def leafD (number : Int) (N : NodeV) : List UInt8:=if N.right∧0≤number∧number < 32 then Sha.sum (leafB number N) else []
def branchD (N : NodeV) (l r : List UInt8) : List UInt8:=if N.right then Sha.sum (branchB N l r) else []
theorem leaf_pen_good (number : Int) (N : NodeV) (hr : N.right) (h0 : 0≤number) (h1 : number < 4294967296) : nodePen N (penSmall 4 number ([1],false)) = (leafB number N,false):=by
 unfold nodePen penSmall
 rw [if_pos hr,if_pos ⟨h0,by omega⟩]
 simp [penNum,penRaw,leafB]
theorem leaf_pen_bad (number : Int) (N : NodeV) (h : ¬ (N.right∧0≤number∧number < 4294967296)) : (nodePen N (penSmall 4 number ([1],false))).2 = true:=by
 unfold nodePen
 by_cases hr : N.right
 ·rw [if_pos hr]
  have : ¬ (0≤number∧number < 2 ^ (8 * 4)):=fun e=>h ⟨hr,e.1,by have:=e.2; omega⟩
  unfold penSmall
  rw [if_neg this]
  rfl
 ·rw [if_neg hr]
theorem nodePen_len (N : NodeV) (st : List UInt8 × Bool) : (nodePen N st).1.length≤st.1.length + 100:=by
 unfold nodePen
 split
 ·rename_i hr
  have:=NodeV.text_len hr
  have:=penRaw_len N.text st
  omega
 ·simp only; omega
theorem leafHash_calls (hG0 : Γ 0 = stC Sha.H0) (hG : Γ 1 = Sha.K.map wV) (number : Int) (hn : -9223372036854775808≤number∧number≤9223372036854775807) (N : NodeV) (hl : N.unm.length≤2 ^ 61) (s : AS) :
  ACalls Tryz.prog Γ 148 [.v (.int .i64 number),.agg N.cells] s (fun r s'=>r = bytesV (leafD number N) .any∧s' = s):=by
 refine acalls_body Tryz.func148 rfl Tryz.ntmps148 Tryz.results148 (by simp) ?_
 have hcl:=fun s0 s p hp=>leafClo_calls (Γ:=Γ) number hn N hl s0 s p ([1],false) (by decide) hp
 have hlen : (nodePen N (penSmall 4 number ([1],false))).1.length≤2 ^ 45:=by
  have h1:=nodePen_len N (penSmall 4 number ([1],false))
  have h2:=penSmall_len 4 number ([1],false)
  simp only [List.length_cons,List.length_nil] at h2
  omega
 have hoc:=fun s=>octets19_calls (Γ:=Γ) 1 (by decide) _ _ k102 _ hcl hlen s
 have hgood:=leaf_pen_good number N
 have hbad:=leaf_pen_bad number N
 have hD : leafD number N = if N.right∧0≤number∧number < 32 then Sha.sum (leafB number N) else []:=rfl
 have hBl : N.right→(leafB number N).length≤105:=fun hr=>by have:=NodeV.text_len hr; simp [leafB]; omega
 clear hcl
 generalize nodePen N (penSmall 4 number ([1],false)) = F at *
 generalize leafD number N = D at *
 generalize leafB number N = B at *
 unfold NodeV.cells at *
 refine awp_reg_frz2 2 3 (by decide) (by decide) (by decide) ?_
 intro K hK
 simp only [↓DM,pval,DX,Nz,↓DN,Qa,Qb,Qc,Qd,Qe,Qf,Qg,Qh,reduceCtorEq,↓reduceIte,Na,Nb,Nc,Nk,Nf,Ng,Nh,Za,Zb,Zc,TT,intsV]
 intro o1 h1 o2 h2
 refine hK _ _ o1 o2 _ _ (by simp only [upd,Nc,↓reduceIte]) (by simp only [upd,Nc,↓reduceIte]) h1 (by rw [AS.set_objs_eq]; exact h2) ?_
 clear hK K h1 h2
 refine jS @intsV.eq_1 fun K hK=>?_
 refine acallk (hoc _) ?_
 rintro r s1 ⟨rfl,rfl⟩
 by_cases hg : N.right∧0≤number∧number < 4294967296
 ·have hF:=hgood hg.1 hg.2.1 hg.2.2
  rw [hF]
  refine jR hK ?_;clear hK K
  refine wK fun K hK=>?_
  by_cases h32 : number < 32
  ·refine jB (decide_eq_false (show ¬ (32 : Int)≤number by omega)) ?_
   refine jF ?_
   refine awp_skip ?_
   refine hK _ _ ?_;clear hK K
   have hDD : D = Sha.sum B:=by rw [hD,if_pos ⟨hg.1,hg.2.1,h32⟩]
   have hbl:=hBl hg.1
   have hsm:=sum_calls (Γ:=Γ) hG0 hG [B] .new (by simp) (by simp; omega) s1
   rw [show [B].flatten = B from by simp,← hDD] at hsm
   refine wS fun K hK=>?_
   simp only [↓DN,Qa,Qb,Qc,Qd,Qe,Qf,Qg,Qh,reduceCtorEq,↓reduceIte,Na,Nb,Nc,Nk,Nf,Ng,Nh,Za,Zb,Zc,TT,List.replicate_one]
   refine acallk hsm ?_
   intro r s2 hout
   have hsl : D.length = 32:=by rw [hDD]; exact Sha.sum_length B
   have hw:=hout.weak
   have hle:=hout.1
   obtain ⟨t,e,rfl⟩:=outS_own hout (by rw [← List.length_pos_iff,hsl]; decide)
   refine jR hK ?_;clear hK K
   refine jI ?_
   exact ⟨_,s1,hw,hle,rfl,rfl⟩
  ·refine jB (decide_eq_true (show (32 : Int)≤number by omega)) ?_
   refine jE ?_
   refine jA ?_
   refine jI ?_
   refine ⟨bytesV [] .any,_,AV.weak_nil,AS.le.refl _,?_,rfl⟩
   rw [hD,if_neg (fun h=>h32 h.2.2)]
   rfl
 ·have hF:=hbad hg
  rw [hF]
  refine jR hK ?_;clear hK K
  refine wK fun K hK=>?_
  refine jA ?_
  refine jE ?_
  refine jA ?_
  refine jI ?_
  refine ⟨bytesV [] .any,_,AV.weak_nil,AS.le.refl _,?_,rfl⟩
  rw [hD,if_neg (fun h=>hg ⟨h.1,h.2.1,by omega⟩)]
  rfl
theorem partsB_tri (a b c : List UInt8) : PartsB [a,b,c] = [bytesV a .any,bytesV b .any,bytesV c .any]:=rfl
theorem branchHash_calls (hG0 : Γ 0 = stC Sha.H0) (hG : Γ 1 = Sha.K.map wV) (N : NodeV) (hl : N.unm.length≤2 ^ 61) (x y : List UInt8) (hxy : x.length + y.length≤2 ^ 30) (s : AS) :
  ACalls Tryz.prog Γ 149 [.agg N.cells,bytesV x .any,bytesV y .any] s (fun r s'=>r = bytesV (branchD N x y) .any∧s' = s):=by
 refine acalls_body Tryz.func149 rfl Tryz.ntmps149 Tryz.results149 (by simp) ?_
 have hcl:=fun s0 s p hp=>branchClo_calls (Γ:=Γ) N hl s0 s p ([2],false) (by decide) hp
 have hlen : (nodePen N ([2],false)).1.length≤2 ^ 45:=by
  have h1:=nodePen_len N ([2],false)
  simp only [List.length_cons,List.length_nil] at h1
  omega
 have hoc:=fun s=>octets19_calls (Γ:=Γ) 2 (by decide) _ _ k105 _ hcl hlen s
 have hD : branchD N x y = if N.right then Sha.sum (branchB N x y) else []:=rfl
 have hB : branchB N x y = (2 :: N.text) ++ (x ++ y):=rfl
 have hT:=fun hr=>NodeV.text_len (N:=N) hr
 have hgood : N.right→nodePen N ([2],false) = (2 :: N.text,false):=fun hr=>by unfold nodePen; rw [if_pos hr]; rfl
 have hbad : ¬ N.right→(nodePen N ([2],false)).2 = true:=fun hr=>by unfold nodePen; rw [if_neg hr]
 clear hcl
 generalize nodePen N ([2],false) = F at *
 generalize branchD N x y = D at *
 generalize branchB N x y = B at *
 have hpre : N.right→(2 :: N.text).length≤101:=fun hr=>by have:=hT hr; simp; omega
 generalize (2 :: N.text) = pre at *
 unfold NodeV.cells at *
 refine awp_reg_frz 3 (by simp [dsts]) ?_
 intro K hK
 simp only [↓DM,pval,DX,Nz,↓DN,Qa,Qb,Qc,Qd,Qe,Qf,Qg,Qh,reduceCtorEq,↓reduceIte,Na,Nb,Nc,Nk,Nf,Ng,Nh,Za,Zb,Zc,TT,intsV]
 intro o ho
 refine hK _ _ o _ (by simp only [upd,Nc,↓reduceIte]) ho ?_
 clear hK K ho
 refine jS @intsV.eq_1 fun K hK=>?_
 refine acallk (hoc _) ?_
 rintro r s1 ⟨rfl,rfl⟩
 by_cases hg : N.right
 ·rw [hgood hg]
  refine jR hK ?_;clear hK K
  refine wK fun K hK=>?_
  refine jA ?_
  refine jF ?_
  refine awp_skip ?_
  refine hK _ _ ?_;clear hK K
  have hDD : D = Sha.sum B:=by rw [hD,if_pos hg]
  have hpl:=hpre hg
  have hsm:=sum_calls (Γ:=Γ) hG0 hG [pre,x,y] .new (by simp) (by simp; omega) s1
  rw [show [pre,x,y].flatten = B from by rw [hB]; simp,← hDD,partsB_tri] at hsm
  refine wS fun K hK=>?_
  simp only [↓DN,Qa,Qb,Qc,Qd,Qe,Qf,Qg,Qh,reduceCtorEq,↓reduceIte,Na,Nb,Nc,Nk,Nf,Ng,Nh,Za,Zb,Zc,TT,List.replicate_succ,List.replicate_zero]
  refine acallk hsm ?_
  intro r s2 hout
  have hsl : D.length = 32:=by rw [hDD]; exact Sha.sum_length B
  have hw:=hout.weak
  have hle:=hout.1
  obtain ⟨t,e,rfl⟩:=outS_own hout (by rw [← List.length_pos_iff,hsl]; decide)
  refine jR hK ?_;clear hK K
  refine jI ?_
  exact ⟨_,s1,hw,hle,rfl,rfl⟩
 ·rw [hbad hg]
  refine jR hK ?_;clear hK K
  refine wK fun K hK=>?_
  refine jA ?_
  refine jE ?_
  refine jA ?_
  refine jI ?_
  refine ⟨bytesV [] .any,_,AV.weak_nil,AS.le.refl _,?_,rfl⟩
  rw [hD,if_neg hg]
  rfl
end Go.Proofs.YtfjlmkifiihgkaaGreatDoor
namespace Go.Proofs.YtfjlmkifiihgkaaGreatDoor
open Go Go.AM Go.Proofs
variable {Γ : Nat→List AV}
theorem refLeafHash_calls (n : Nat) (hn : n < 32) (N : NodeV) (hr : N.right) (s : AS) :
  ACalls Tryz.prog Γ 80 [.v (.int .i64 (n : Int)),.agg N.cells] s (fun r s'=>r = .v (.string ⟨(Sha.sum (leafB (n : Int) N)).toArray⟩)∧s' = s):=by
 refine acalls_body Tryz.func80 rfl Tryz.ntmps80 Tryz.results80 (by simp) ?_
 have hw:=fun s=>refNodeWrite_calls (Γ:=Γ) N hr s
 have hT:=NodeV.text_len hr
 have hB : leafB (n : Int) N = 1 :: (be 4 n ++ N.text):=rfl
 have hbl : (leafB (n : Int) N).length≤110:=by rw [hB]; simp; omega
 have hsm:=fun s=>refSum_calls (Γ:=Γ) (leafB (n : Int) N) (by omega) s
 rw [hB] at hsm hbl
 rw [show leafB (n : Int) N = 1 :: (be 4 n ++ N.text) from rfl]
 generalize N.text = tx at *
 unfold NodeV.cells at *
 refine awp_reg_frz 3 (by simp [dsts]) ?_
 intro K hK
 simp only [↓DM,pval,DX,Nz,↓DN,Qa,Qb,Qc,Qd,Qe,Qf,Qg,Qh,reduceCtorEq,↓reduceIte,Na,Nb,Nc,Nk,Nf,Ng,Nh,Za,Zb,Zc,TT,intsV]
 intro o ho
 refine hK _ _ o _ (by simp only [upd,Nc,↓reduceIte]) ho ?_
 clear hK K ho
 refine awp_drw_seq T.mixed [2,5,7] (by kernel_rfl) ?_
 intro K hK
 simp only [↓DM,pval,DX,Nz,↓DN,Qa,Qb,Qc,Qd,Qe,Qf,Qg,Qh,reduceCtorEq,↓reduceIte,Na,Nb,Nc,Nk,Nf,Ng,Nh,Za,Zb,Zc,TT,intsV,iconv_u64_nat n (show n < 2 ^ 64 by omega)]
 refine acallk (refNumber_calls n 4 (by omega) (by omega) _) ?_
 rintro r s1 ⟨rfl,rfl⟩
 simp only [↓DM,pval,DX,Nz,↓DN,Qa,Qb,Qc,Qd,Qe,Qf,Qg,Qh,reduceCtorEq,↓reduceIte,Na,Nb,Nc,Nk,Nf,Ng,Nh,Za,Zb,Zc,TT,intsV,length_be]
 refine acallk (hw _) ?_
 rintro r s2 ⟨rfl,rfl⟩
 simp only [↓DM,pval,DX,Nz,↓DN,Qa,Qb,Qc,Qd,Qe,Qf,Qg,Qh,reduceCtorEq,↓reduceIte,Na,Nb,Nc,Nk,Nf,Ng,Nh,Za,Zb,Zc,TT,intsV,length_be,i64_room (show 4 + 1 + tx.length < 2 ^ 62 by omega),i64_room (show 5 + tx.length < 2 ^ 62 by omega)]
 refine acallk (hsm _) ?_
 rintro r s3 ⟨rfl,rfl⟩
 refine jR hK ?_;clear hK K
 exact jJ
theorem refBranchHash_calls (N : NodeV) (hr : N.right) (x y : List UInt8) (hxy : x.length + y.length≤2 ^ 30) (s : AS) :
  ACalls Tryz.prog Γ 81 [.agg N.cells,.v (.string ⟨x.toArray⟩),.v (.string ⟨y.toArray⟩)] s (fun r s'=>r = .v (.string ⟨(Sha.sum (branchB N x y)).toArray⟩)∧s' = s):=by
 refine acalls_body Tryz.func81 rfl Tryz.ntmps81 Tryz.results81 (by simp) ?_
 have hw:=fun s=>refNodeWrite_calls (Γ:=Γ) N hr s
 have hT:=NodeV.text_len hr
 have hB : branchB N x y = 2 :: (N.text ++ (x ++ y)):=rfl
 have hsm:=fun s=>refSum_calls (Γ:=Γ) (branchB N x y) (by rw [hB]; simp; omega) s
 rw [hB] at hsm ⊢
 generalize N.text = tx at *
 unfold NodeV.cells at *
 refine awp_reg_frz 3 (by simp [dsts]) ?_
 intro K hK
 simp only [↓DM,pval,DX,Nz,↓DN,Qa,Qb,Qc,Qd,Qe,Qf,Qg,Qh,reduceCtorEq,↓reduceIte,Na,Nb,Nc,Nk,Nf,Ng,Nh,Za,Zb,Zc,TT,intsV]
 intro o ho
 refine hK _ _ o _ (by simp only [upd,Nc,↓reduceIte]) ho ?_
 clear hK K ho
 refine jS @intsV.eq_1 fun K hK=>?_
 refine acallk (hw _) ?_
 rintro r s2 ⟨rfl,rfl⟩
 simp only [↓DM,pval,DX,Nz,↓DN,Qa,Qb,Qc,Qd,Qe,Qf,Qg,Qh,reduceCtorEq,↓reduceIte,Na,Nb,Nc,Nk,Nf,Ng,Nh,Za,Zb,Zc,TT,intsV,i64_room (show 1 + tx.length < 2 ^ 62 by omega),i64_room (show tx.length + 1 + x.length < 2 ^ 62 by omega),i64_room (show tx.length + (x.length + 1) + y.length < 2 ^ 62 by omega),i64_room (show tx.length + x.length + 1 + y.length < 2 ^ 62 by omega)]
 refine acallk (hsm _) ?_
 rintro r s3 ⟨rfl,rfl⟩
 refine jR hK ?_;clear hK K
 exact jJ
end Go.Proofs.YtfjlmkifiihgkaaGreatDoor
namespace Go.Proofs.YtfjlmkifiihgkaaGreatDoor
open Go Go.AM Go.Proofs
variable {Γ : Nat→List AV}
def hashF (t : List NodeV) : Nat→Nat→List UInt8
 | 0,n=>leafD ((n / 2 : Nat) : Int) (nd t n)
 | l + 1,n=>branchD (nd t n) (hashF t l (n - 2 ^ l)) (hashF t l (n + 2 ^ l))
theorem hashF_len (t : List NodeV) : ∀ l n,(hashF t l n).length≤32
 | 0,n=>by
  unfold hashF leafD
  split
  ·rw [Sha.sum_length]; exact Nat.le_refl _
  ·simp
 | l + 1,n=>by
  unfold hashF branchD
  split
  ·rw [Sha.sum_length]; exact Nat.le_refl _
  ·simp
theorem hash20_calls (hG0 : Γ 0 = stC Sha.H0) (hG1 : Γ 1 = Sha.K.map wV) (hG : Γ 3 = dB64.map u8C) (t : List NodeV) (ht : TreeW t) : ∀ (l n : Nat),lv n = l→n < 63→n + 2 ^ l≤t.length→∀ s,
  ACalls Tryz.prog Γ 77 [treeV t,.v (.int .i64 n)] s (fun r s'=>r = bytesV (hashF t l n) .any∧s' = s):=by
 intro l
 induction l with
 | zero =>
  intro n hl hn hs s
  refine acalls_body Tryz.func77 rfl Tryz.ntmps77 Tryz.results77 (by simp) ?_
  have hlc:=fun s=>left18_calls (Γ:=Γ) hG (n : Int) (by omega) s
  rw [kids_leaf hn hl] at hlc
  have hi : n < t.length:=by have : (2 : Nat) ^ 0 = 1:=rfl; omega
  have hat:=node_at hi
  have hH:=fun s=>leafHash_calls (Γ:=Γ) hG0 hG1 ((n / 2 : Nat) : Int) (by omega) (nd t n) (ht.nd n).1 s
  have hres : hashF t 0 n = leafD ((n / 2 : Nat) : Int) (nd t n):=rfl
  rw [hres]
  generalize leafD ((n / 2 : Nat) : Int) (nd t n) = D at *
  generalize nd t n = N at *
  unfold treeV
  generalize rowC NodeV.cells t = X at *
  obtain ⟨nk,nm,ny,npa,nu⟩:=N
  unfold NodeV.cells at hat hH
  unfold intsV at hat hH
  have hge : (0 : Int)≤(n : Int):=by omega
  refine jA ?_
  refine jK (hlc _) ?_;rintro s1 rfl
  refine wK fun K hK=>?_
  refine jA ?_
  refine jE ?_
  refine wS fun K hK=>?_
  simp only [↓DN,Qa,Qb,Qc,Qd,Qe,Qf,Qg,Qh,reduceCtorEq,↓reduceIte,Na,Nb,Nc,Nk,Nf,Ng,Nh,Za,Zb,Zc,TT,two0,iquo_nat n (by omega),eye_lt_nat,hi,hge,hat]
  refine acallk (hH _) ?_
  rintro r s2 ⟨rfl,rfl⟩
  refine jR hK ?_;clear hK K
  exact jJ
 | succ l ih =>
  intro n hl hn hs s
  refine acalls_body Tryz.func77 rfl Tryz.ntmps77 Tryz.results77 (by simp) ?_
  obtain ⟨hk,hl1,hl2,hb1,hb2,hb3⟩:=kids_branch hn hl
  have hlc:=fun s=>left18_calls (Γ:=Γ) hG (n : Int) (by omega) s
  have hrc:=fun s=>right18_calls (Γ:=Γ) hG (n : Int) (by omega) s
  rw [hk] at hlc hrc
  have hpos : 0 < 2 ^ l:=Nat.two_pow_pos l
  have hpow : 2 ^ (l + 1) = 2 ^ l + 2 ^ l:=by rw [Nat.pow_succ]; omega
  have hi : n < t.length:=by omega
  have hat:=node_at hi
  have h1:=fun s=>ih (n - 2 ^ l) hl1 (by omega) (by omega) s
  have h2:=fun s=>ih (n + 2 ^ l) hl2 hb1 (by omega) s
  have hB:=fun s=>branchHash_calls (Γ:=Γ) hG0 hG1 (nd t n) (ht.nd n).1 (hashF t l (n - 2 ^ l)) (hashF t l (n + 2 ^ l)) (by have:=hashF_len t l (n - 2 ^ l); have:=hashF_len t l (n + 2 ^ l); omega) s
  have hres : hashF t (l + 1) n = branchD (nd t n) (hashF t l (n - 2 ^ l)) (hashF t l (n + 2 ^ l)):=rfl
  rw [hres]
  clear ih hres
  generalize branchD (nd t n) (hashF t l (n - 2 ^ l)) (hashF t l (n + 2 ^ l)) = D at *
  generalize hashF t l (n - 2 ^ l) = H1 at *
  generalize hashF t l (n + 2 ^ l) = H2 at *
  generalize nd t n = N at *
  unfold treeV at *
  generalize rowC NodeV.cells t = X at *
  obtain ⟨nk,nm,ny,npa,nu⟩:=N
  unfold NodeV.cells at hat hB
  unfold intsV at hat hB
  have hge : (0 : Int)≤(n : Int):=by omega
  refine jA ?_
  refine jK (hlc _) ?_;rintro s1 rfl
  refine wK fun K hK=>?_
  refine jA ?_
  refine jF ?_
  refine awp_skip ?_
  refine hK _ _ ?_;clear hK K
  refine jK (hrc _) ?_;rintro s2 rfl
  refine awp_drw_seq T.mixed [6,9,10] (by kernel_rfl) ?_
  intro K hK
  simp only [↓DM,pval,DX,Nz,↓DN,Qa,Qb,Qc,Qd,Qe,Qf,Qg,Qh,reduceCtorEq,↓reduceIte,Na,Nb,Nc,Nk,Nf,Ng,Nh,Za,Zb,Zc,TT,eye_lt_nat,hi,hge,hat]
  refine acallk (h1 _) ?_
  rintro r s3 ⟨rfl,rfl⟩
  simp only [↓DM,pval,DX,Nz,↓DN,Qa,Qb,Qc,Qd,Qe,Qf,Qg,Qh,reduceCtorEq,↓reduceIte,Na,Nb,Nc,Nk,Nf,Ng,Nh,Za,Zb,Zc,TT]
  refine acallk (h2 _) ?_
  rintro r s4 ⟨rfl,rfl⟩
  simp only [↓DM,pval,DX,Nz,↓DN,Qa,Qb,Qc,Qd,Qe,Qf,Qg,Qh,reduceCtorEq,↓reduceIte,Na,Nb,Nc,Nk,Nf,Ng,Nh,Za,Zb,Zc,TT]
  refine acallk (hB _) ?_
  rintro r s5 ⟨rfl,rfl⟩
  refine jR hK ?_;clear hK K
  exact jJ
theorem leafD_right {t : List NodeV} (hr : rightT t) {n : Nat} (hn : n < 63) : leafD ((n / 2 : Nat) : Int) (nd t n) = Sha.sum (leafB ((n / 2 : Nat) : Int) (nd t n)):=by
 unfold leafD
 exact if_pos ⟨hr.nd n,by omega,by omega⟩
theorem branchD_right {t : List NodeV} (hr : rightT t) (n : Nat) (a b : List UInt8) : branchD (nd t n) a b = Sha.sum (branchB (nd t n) a b):=by
 unfold branchD
 exact if_pos (hr.nd n)
theorem refHash20_calls (t : List NodeV) (ht : TreeW t) (hr : rightT t) : ∀ (l n : Nat),lv n = l→n < 63→n + 2 ^ l≤t.length→∀ s,
  ACalls Tryz.prog Γ 22 [treeV t,.v (.int .i64 n)] s (fun r s'=>r = .v (.string ⟨(hashF t l n).toArray⟩)∧s' = s):=by
 intro l
 induction l with
 | zero =>
  intro n hl hn hs s
  refine acalls_body Tryz.func22 rfl Tryz.ntmps22 Tryz.results22 (by simp) ?_
  have hlc:=fun s=>refKids18_calls (Γ:=Γ) (n : Int) (by omega) s
  rw [kids_leaf hn hl] at hlc
  have hi : n < t.length:=by have : (2 : Nat) ^ 0 = 1:=rfl; omega
  have hat:=node_at hi
  have hH:=fun s=>refLeafHash_calls (Γ:=Γ) (n / 2) (by omega) (nd t n) (hr.nd n) s
  have hres : hashF t 0 n = Sha.sum (leafB ((n / 2 : Nat) : Int) (nd t n)):=leafD_right hr hn
  rw [hres]
  generalize Sha.sum (leafB ((n / 2 : Nat) : Int) (nd t n)) = D at *
  generalize nd t n = N at *
  unfold treeV
  generalize rowC NodeV.cells t = X at *
  obtain ⟨nk,nm,ny,npa,nu⟩:=N
  unfold NodeV.cells at hat hH
  unfold intsV at hat hH
  have hge : (0 : Int)≤(n : Int):=by omega
  refine jA ?_
  refine jK (hlc _) ?_;rintro s1 rfl
  refine wK fun K hK=>?_
  refine jA ?_
  refine jE ?_
  refine wS fun K hK=>?_
  simp only [↓DN,Qa,Qb,Qc,Qd,Qe,Qf,Qg,Qh,reduceCtorEq,↓reduceIte,Na,Nb,Nc,Nk,Nf,Ng,Nh,Za,Zb,Zc,TT,two0,iquo_nat n (by omega),eye_lt_nat,hi,hge,hat]
  refine acallk (hH _) ?_
  rintro r s2 ⟨rfl,rfl⟩
  refine jR hK ?_;clear hK K
  exact jJ
 | succ l ih =>
  intro n hl hn hs s
  refine acalls_body Tryz.func22 rfl Tryz.ntmps22 Tryz.results22 (by simp) ?_
  obtain ⟨hk,hl1,hl2,hb1,hb2,hb3⟩:=kids_branch hn hl
  have hlc:=fun s=>refKids18_calls (Γ:=Γ) (n : Int) (by omega) s
  rw [hk] at hlc
  have hpos : 0 < 2 ^ l:=Nat.two_pow_pos l
  have hpow : 2 ^ (l + 1) = 2 ^ l + 2 ^ l:=by rw [Nat.pow_succ]; omega
  have hi : n < t.length:=by omega
  have hat:=node_at hi
  have h1:=fun s=>ih (n - 2 ^ l) hl1 (by omega) (by omega) s
  have h2:=fun s=>ih (n + 2 ^ l) hl2 hb1 (by omega) s
  have hB:=fun s=>refBranchHash_calls (Γ:=Γ) (nd t n) (hr.nd n) (hashF t l (n - 2 ^ l)) (hashF t l (n + 2 ^ l)) (by have:=hashF_len t l (n - 2 ^ l); have:=hashF_len t l (n + 2 ^ l); omega) s
  have hres : hashF t (l + 1) n = Sha.sum (branchB (nd t n) (hashF t l (n - 2 ^ l)) (hashF t l (n + 2 ^ l))):=branchD_right hr n _ _
  rw [hres]
  clear ih hres
  generalize Sha.sum (branchB (nd t n) (hashF t l (n - 2 ^ l)) (hashF t l (n + 2 ^ l))) = D at *
  generalize hashF t l (n - 2 ^ l) = H1 at *
  generalize hashF t l (n + 2 ^ l) = H2 at *
  generalize nd t n = N at *
  unfold treeV at *
  generalize rowC NodeV.cells t = X at *
  obtain ⟨nk,nm,ny,npa,nu⟩:=N
  unfold NodeV.cells at hat hB
  unfold intsV at hat hB
  have hge : (0 : Int)≤(n : Int):=by omega
  refine jA ?_
  refine jK (hlc _) ?_;rintro s1 rfl
  refine wK fun K hK=>?_
  refine jA ?_
  refine jF ?_
  refine awp_skip ?_
  refine hK _ _ ?_;clear hK K
  refine awp_drw_seq T.mixed [6,9,10] (by kernel_rfl) ?_
  intro K hK
  simp only [↓DM,pval,DX,Nz,↓DN,Qa,Qb,Qc,Qd,Qe,Qf,Qg,Qh,reduceCtorEq,↓reduceIte,Na,Nb,Nc,Nk,Nf,Ng,Nh,Za,Zb,Zc,TT,eye_lt_nat,hi,hge,hat]
  refine acallk (h1 _) ?_
  rintro r s3 ⟨rfl,rfl⟩
  simp only [↓DM,pval,DX,Nz,↓DN,Qa,Qb,Qc,Qd,Qe,Qf,Qg,Qh,reduceCtorEq,↓reduceIte,Na,Nb,Nc,Nk,Nf,Ng,Nh,Za,Zb,Zc,TT]
  refine acallk (h2 _) ?_
  rintro r s4 ⟨rfl,rfl⟩
  simp only [↓DM,pval,DX,Nz,↓DN,Qa,Qb,Qc,Qd,Qe,Qf,Qg,Qh,reduceCtorEq,↓reduceIte,Na,Nb,Nc,Nk,Nf,Ng,Nh,Za,Zb,Zc,TT]
  refine acallk (hB _) ?_
  rintro r s5 ⟨rfl,rfl⟩
  refine jR hK ?_;clear hK K
  exact jJ
end Go.Proofs.YtfjlmkifiihgkaaGreatDoor
namespace Go.Proofs.YtfjlmkifiihgkaaGreatDoor
open Go Go.AM Go.Proofs
variable {Γ : Nat→List AV}
def HashT (t : List NodeV) (x : Int) : List UInt8:=if 0≤x∧x < (t.length : Int)∧rightT t then hashF t (lv x.toNat) x.toNat else []
def RootT (t : List NodeV) : List UInt8:=HashT t ((lvs t : Int) - 1)
theorem hashPub_calls (hG0 : Γ 0 = stC Sha.H0) (hG1 : Γ 1 = Sha.K.map wV) (hG : Γ 3 = dB64.map u8C) (t : List NodeV) (ht : TreeW t) (x : Int) (s : AS) :
  ACalls Tryz.prog Γ 19 [treeV t,.v (.int .i64 x)] s (fun r s'=>r = bytesV (HashT t x) .any∧s' = s):=by
 refine acalls_body Tryz.func19 rfl Tryz.ntmps19 Tryz.results19 (by simp) ?_
 have hr:=fun s=>right20_calls (Γ:=Γ) hG t ht s
 have hh:=fun n hn hs s=>hash20_calls (Γ:=Γ) hG0 hG1 hG t ht (lv n) n rfl hn hs s
 have htl:=ht.1
 have hno : ¬ (0≤x∧x < (t.length : Int)∧rightT t)→HashT t x = []:=fun h=>if_neg h
 have hyes : 0≤x∧x < (t.length : Int)∧rightT t→HashT t x = hashF t (lv x.toNat) x.toNat:=fun h=>if_pos h
 unfold treeV at *
 generalize rowC NodeV.cells t = X at *
 refine jA ?_
 refine wK fun K hK=>?_
 by_cases h0 : x < 0
 ·refine jB (decide_eq_true h0) ?_
  refine jE ?_
  refine jA ?_
  refine jI ?_
  refine ⟨_,_,AV.weak_nil (sz:=1),AS.le.refl _,?_,rfl⟩
  rw [hno (fun k=>by omega)]
  rfl
 ·by_cases h1 : (t.length : Int)≤x
  ·refine jB (Ai (decide_eq_false h0) (decide_eq_true h1)) ?_
   refine jE ?_
   refine jA ?_
   refine jI ?_
   refine ⟨_,_,AV.weak_nil (sz:=1),AS.le.refl _,?_,rfl⟩
   rw [hno (fun k=>by omega)]
   rfl
  ·refine jS (Ai (decide_eq_false h0) (decide_eq_false h1)) fun K hK=>?_
   refine acallk (hr _) ?_
   rintro r s1 ⟨rfl,rfl⟩
   by_cases hrt : rightT t
   ·rw [decide_eq_true hrt]
    refine jR hK ?_;clear hK K
    refine jF ?_
    refine awp_skip ?_
    refine hK _ _ ?_;clear hK K
    obtain ⟨n,rfl⟩:=Int.eq_ofNat_of_zero_le (show 0≤x by omega)
    have hn : n < t.length:=by omega
    obtain ⟨hs1,hs2⟩:=hrt.span hn
    refine jK (hh n hs2 hs1 _) ?_;rintro s2 rfl
    refine jI ?_
    refine ⟨_,_,AV.weak.refl _,AS.le.refl _,?_,rfl⟩
    rw [hyes ⟨by omega,by omega,hrt⟩,Int.toNat_natCast]
   ·rw [decide_eq_false hrt]
    refine jR hK ?_;clear hK K
    refine jE ?_
    refine jA ?_
    refine jI ?_
    refine ⟨_,_,AV.weak_nil (sz:=1),AS.le.refl _,?_,rfl⟩
    rw [hno (fun k=>hrt k.2.2)]
    rfl
theorem root20_calls (hG0 : Γ 0 = stC Sha.H0) (hG1 : Γ 1 = Sha.K.map wV) (hG : Γ 3 = dB64.map u8C) (t : List NodeV) (ht : TreeW t) (s : AS) :
  ACalls Tryz.prog Γ 70 [treeV t] s (fun r s'=>r = bytesV (RootT t) .any∧s' = s):=by
 refine acalls_body Tryz.func70 rfl Tryz.ntmps70 Tryz.results70 (by simp) ?_
 have hl:=fun s=>leaves_calls (Γ:=Γ) t ht.1 s
 have hh:=fun x s=>hashPub_calls (Γ:=Γ) hG0 hG1 hG t ht x s
 have hlv:=lvs_le t
 have hRoot : RootT t = HashT t ((lvs t : Int) - 1):=rfl
 unfold treeV at *
 generalize rowC NodeV.cells t = X at *
 refine jA ?_
 refine jQ fun K hK=>?_
 refine acallk (hl _) ?_
 rintro r s1 ⟨rfl,rfl⟩
 simp only [↓DM,pval,DX,Nz,↓DN,Qa,Qb,Qc,Qd,Qe,Qf,Qg,Qh,reduceCtorEq,↓reduceIte,Na,Nb,Nc,Nk,Nf,Ng,Nh,Za,Zb,Zc,TT,isub_i64 (a:=(lvs t : Int)) (b:=1) (by omega)]
 refine acallk (hh _ _) ?_
 rintro r s2 ⟨rfl,rfl⟩
 refine jR hK ?_;clear hK K
 exact jJ
theorem refRoot20_calls (t : List NodeV) (ht : TreeW t) (hr : rightT t) (s : AS) :
  ACalls Tryz.prog Γ 71 [treeV t] s (fun r s'=>r = .v (.string ⟨(RootT t).toArray⟩)∧s' = s):=by
 refine acalls_body Tryz.func71 rfl Tryz.ntmps71 Tryz.results71 (by simp) ?_
 have hl:=fun s=>refLeaves_calls (Γ:=Γ) t ht.1 s
 obtain ⟨h1,h2⟩:=hr.len
 have h2':=h2.le
 obtain ⟨hs1,hs2⟩:=hr.span (n:=lvs t - 1) (by omega)
 have hh:=fun s=>refHash20_calls (Γ:=Γ) t ht hr (lv (lvs t - 1)) (lvs t - 1) rfl hs2 hs1 s
 have hRoot : RootT t = hashF t (lv (lvs t - 1)) (lvs t - 1):=by
  unfold RootT HashT
  rw [if_pos ⟨by omega,by omega,hr⟩,show ((lvs t : Int) - 1).toNat = lvs t - 1 by omega]
 rw [hRoot]
 clear hRoot
 generalize hashF t (lv (lvs t - 1)) (lvs t - 1) = D at *
 have e1 : isub .i64 (lvs t : Int) 1 = ((lvs t - 1 : Nat) : Int):=by rw [isub_i64 (by omega)]; omega
 unfold treeV at *
 generalize rowC NodeV.cells t = X at *
 refine jA ?_
 refine jQ fun K hK=>?_
 refine acallk (hl _) ?_
 rintro r s1 ⟨rfl,rfl⟩
 simp only [↓DM,pval,DX,Nz,↓DN,Qa,Qb,Qc,Qd,Qe,Qf,Qg,Qh,reduceCtorEq,↓reduceIte,Na,Nb,Nc,Nk,Nf,Ng,Nh,Za,Zb,Zc,TT,e1]
 refine acallk (hh _) ?_
 rintro r s2 ⟨rfl,rfl⟩
 refine jR hK ?_;clear hK K
 exact jJ
theorem index_calls (l : List Int) (v : Int) (hl : l.length≤2 ^ 61) (s : AS) : ACalls Tryz.prog Γ 212 [intsV l .any,.v (.int .i64 v)] s (fun r s'=>r = .v (.int .i64 (firstN (fun i=>v == l.getD i 0) l.length 0))∧s' = s):=by
 refine acalls_body Tryz.func212 rfl Tryz.ntmps212 Tryz.results212 (by simp) ?_
 obtain ⟨Q,hQ⟩ : ∃ Q : Nat→Bool,Q = fun i=>v == l.getD i 0:=⟨_,rfl⟩
 rw [← hQ]
 unfold intsV
 refine jA ?_
 refine wK fun K hK=>?_
 refine jA ?_
 refine awp_block ?_
 refine awp_loop (fun E s2=>∃ i : Nat,i≤l.length∧firstN Q (l.length - i) i = firstN Q l.length 0∧E 8 = .v (.int .i64 i)∧E 7 = .v (.int .i64 l.length)∧E 0 = .sl 1 l.length (l.map intC) .any∧E 1 = .v (.int .i64 v)∧s2 = s)
  (fun E _=>match E 8 with | .v (.int _ i)=>l.length - i.toNat | _=>0) ?_ ?_
 ·exact ⟨0,Nat.zero_le _,rfl,by simp only [upd,Nc,↓reduceIte]; rfl,by simp only [upd,Nc,↓reduceIte],by simp only [upd,initE,List.getD_cons_zero,List.getD_cons_succ,Nc,↓reduceIte],by simp only [upd,initE,List.getD_cons_zero,List.getD_cons_succ,Nc,↓reduceIte],rfl⟩
 ·rintro E1 s2 ⟨i,hi,hf,g8,g7,g0,g1,rfl⟩ -
  by_cases hi' : i < l.length
  ·refine jB (Ai @g8 (Ai @g7 (Ai @eye_lt_nat (decide_eq_true hi')))) ?_
   refine wK fun K2 hK2=>?_
   refine jE ?_
   refine awp_skip ?_
   refine hK2 _ _ ?_;clear hK2 K2
   refine wK fun K3 hK3=>?_
   refine awp_block ?_
   have hQi : Q i = (v == l[i]):=by rw [hQ]; simp [List.getD,hi']
   obtain ⟨k',hk1⟩ : ∃ k',l.length - i = k' + 1:=⟨l.length - i - 1,by omega⟩
   have hk2 : l.length - (i + 1) = k':=by omega
   rw [hk1] at hf
   have hat:=eat_int hi'
   have hge : (0 : Int)≤(i : Int):=by omega
   generalize l[i] = u at *
   refine jB @g8 ?_
   by_cases hq : v = u
   ·have hq1 : Q i = true:=by rw [hQi]; exact yesI hq
    refine jB (Ai @g1 (Ai @g0 (Ai @eye_lt_nat (Ai @hi' (Ai @hge (Ai @hat (yesI hq))))))) ?_
    refine jE ?_
    refine jA ?_
    refine jI ?_
    rw [← hf,firstN_here hq1]
    exact ⟨_,_,AV.weak.refl _,AS.le.refl _,rfl,rfl⟩
   ·have hq1 : Q i = false:=by rw [hQi]; exact notI hq
    refine jB (Ai @g1 (Ai @g0 (Ai @eye_lt_nat (Ai @hi' (Ai @hge (Ai @hat (notI hq))))))) ?_
    refine jF ?_
    refine awp_skip ?_
    simp only [blockQ,thenQ,if_true,if_false]
    refine hK3 _ _ ?_;clear hK3 K3
    refine jD (Ai @g8 (eye_succM i (by omega))) ?_
    refine ⟨⟨i + 1,by omega,by rw [hk2,← hf,firstN_step hq1],by simp only [upd,Nc,↓reduceIte],by simp only [upd,g7,Nc,↓reduceIte],by simp only [upd,g0,Nc,↓reduceIte],by simp only [upd,g1,Nc,↓reduceIte],rfl⟩,?_⟩
    simp only [g8,upd,↓reduceIte]
    omega
  ·refine jB (Ai @g8 (Ai @g7 (Ai @eye_lt_nat (decide_eq_false hi')))) ?_
   refine wK fun K2 hK2=>?_
   refine jF ?_
   refine awp_exit ?_
   simp only [thenQ,blockQ,if_true]
   refine hK _ _ ?_;clear hK hK2 K2 K
   rw [show l.length - i = 0 by omega] at hf
   refine jA ?_
   refine jI ?_
   rw [← hf]
   exact ⟨_,_,AV.weak.refl _,AS.le.refl _,rfl,rfl⟩
theorem contains_calls (l : List Int) (v : Int) (hl : l.length≤2 ^ 61) (s : AS) : ACalls Tryz.prog Γ 147 [intsV l .any,.v (.int .i64 v)] s (fun r s'=>r = .v (.bool (decide (v ∈ l)))∧s' = s):=by
 refine acalls_body Tryz.func147 rfl Tryz.ntmps147 Tryz.results147 (by simp) ?_
 have hc:=fun s=>index_calls (Γ:=Γ) l v hl s
 have ha:=firstN_any (fun x=>v == x) l
 have hm : l.any (fun x=>v == x) = decide (v ∈ l):=by
  rw [Bool.eq_iff_iff,List.any_eq_true,decide_eq_true_iff]
  constructor
  ·rintro ⟨x,hx,he⟩
   rw [beq_iff_eq.1 he]; exact hx
  ·intro h
   exact ⟨v,h,by simp⟩
 rw [hm] at ha
 generalize firstN (fun i=>v == l.getD i 0) l.length 0 = n at *
 refine jA ?_
 refine jK (hc _) ?_;rintro s1 rfl
 refine jI ?_
 rw [← ha]
 exact ⟨_,_,AV.weak.refl _,AS.le.refl _,rfl,rfl⟩
end Go.Proofs.YtfjlmkifiihgkaaGreatDoor
namespace Go.Proofs.YtfjlmkifiihgkaaGreatDoor
open Go Go.AM Go.Proofs
variable {Γ : Nat→List AV}
def RES (s0 : AS) (k : Nat) (cs : List AV) (L : List Int) (r : AV) (s' : AS) : Prop:=RBuf 1 s0 s' r (k + L.length) (cs ++ L.map intC)∧s0.le s'
theorem resolveSelf_calls (hG : Γ 3 = dB64.map u8C) (t : List NodeV) (hrt : rightT t) (skip : List Int) (hsk : skip.length≤2 ^ 61) (n : Nat) (hn63 : n < 63) (hi : n < t.length) (hself : kidsI (n : Int) = none∨(nd t n).kind≠0)
  (s0 s : AS) (x : AV) (k : Nat) (cs : List AV) (hx : RBuf 1 s0 s x k cs) (hle : s0.le s) (hk : k + 33≤100000) :
  ACalls Tryz.prog Γ 76 [treeV t,.v (.int .i64 n),intsV skip .any,x] s (RES s0 k cs (selfL skip (nd t n) n ++ unmL skip (nd t n).unm)):=by
 refine acalls_body Tryz.func76 rfl Tryz.ntmps76 Tryz.results76 (by simp) ?_
 have hlc:=fun s=>left18_calls (Γ:=Γ) hG (n : Int) (by omega) s
 have hcc:=fun v s=>contains_calls (Γ:=Γ) skip v hsk s
 have hat:=node_at hi
 have hur:=right_unm (hrt.nd n)
 have hsl:=selfL_len skip (nd t n) n
 have hselfd : selfL skip (nd t n) n = if ((nd t n).kind = 1∧((n / 2 : Nat) : Int) ∉ skip)∨(nd t n).kind = 2 then [(n : Int)] else []:=rfl
 generalize selfL skip (nd t n) n = SL at *
 generalize nd t n = N at *
 unfold treeV
 generalize rowC NodeV.cells t = X at *
 obtain ⟨nk,nm,ny,npa,nu⟩:=N
 unfold NodeV.cells at hat
 unfold intsV at hat hcc ⊢
 simp only at hur hselfd hself
 have hge : (0 : Int)≤(n : Int):=by omega
 refine jA ?_
 refine awp_reg_frz 9 (by decide) ?_
 intro K hK
 simp only [↓DM,pval,DX,Nz,↓DN,Qa,Qb,Qc,Qd,Qe,Qf,Qg,Qh,reduceCtorEq,↓reduceIte,Na,Nb,Nc,Nk,Nf,Ng,Nh,Za,Zb,Zc,TT,eye_lt_nat,hi,hge,hat]
 intro o1 h1
 refine hK _ _ o1 _ (by simp only [upd,Nc,↓reduceIte]) h1 ?_
 clear hK K h1
 refine wK fun K0 hK0=>?_
 have h0 : ∀ (E : Env) (lf : Int) (ok : Bool),(ok = true→nk≠0)→E 0 = .sl 5 t.length X .any→E 1 = .v (.int .i64 n)→E 2 = .sl 1 skip.length (skip.map intC) .any→E 3 = x→E 9 = .rop [.v (.int .i64 nk),.sl 1 nm.length (nm.map byteV) .any,.v (.int .u64 ny),.sl 1 npa.length (npa.map byteV) .any,.sl 1 nu.length (nu.map intC) .any]→E 10 = .v (.int .i64 lf)→E 11 = .v (.bool ok)→K0 E s:=by
  intro E lf ok hok g0 g1 g2 g3 g9 g10 g11
  refine hK0 _ _ ?_;clear hK0 K0
  refine wK fun K1 hK1=>?_
  have h1 : ∀ (E : Env) (s1 : AS) (x1 : AV),E 1 = .v (.int .i64 n)→E 2 = .sl 1 skip.length (skip.map intC) .any→E 9 = .rop [.v (.int .i64 nk),.sl 1 nm.length (nm.map byteV) .any,.v (.int .u64 ny),.sl 1 npa.length (npa.map byteV) .any,.sl 1 nu.length (nu.map intC) .any]→E 3 = x1→RBuf 1 s0 s1 x1 (k + SL.length) (cs ++ SL.map intC)→s0.le s1→K1 E s1:=by
   clear g0 g1 g2 g3 g9 g10 g11 hx hle
   intro E s1 x1 g1 g2 g9 g3 hx hle
   refine hK1 _ _ ?_;clear hK1 K1
   refine wK fun K2 hK2=>?_
   refine jB @g9 ?_
   refine awp_block ?_
   refine awp_loop (fun E s2=>∃ (i : Nat) (x2 : AV),i≤nu.length∧E 67 = .v (.int .i64 i)∧E 66 = .v (.int .i64 nu.length)∧E 65 = .sl 1 nu.length (nu.map intC) .any∧E 2 = .sl 1 skip.length (skip.map intC) .any∧E 3 = x2∧RBuf 1 s0 s2 x2 (k + SL.length + (unmL skip (nu.take i)).length) (cs ++ SL.map intC ++ (unmL skip (nu.take i)).map intC)∧s0.le s2)
    (fun E _=>match E 67 with | .v (.int _ i)=>nu.length - i.toNat | _=>0) ?_ ?_
   ·refine ⟨0,x1,Nat.zero_le _,by simp only [upd,Nc,↓reduceIte]; rfl,by simp only [upd,Nc,↓reduceIte],by simp only [upd,Nc,↓reduceIte],by simp only [upd,g2,Nc,↓reduceIte],by simp only [upd,g3,Nc,↓reduceIte],?_,hle⟩
    have : unmL skip (nu.take 0) = []:=by simp [unmL]
    rw [this]
    simpa using hx
   ·clear g1 g2 g9 g3 hx hle
    rintro E2 s2 ⟨i,x2,hi',g67,g66,g65,g2,g3,hx,hle⟩ -
    by_cases hin : i < nu.length
    ·refine jB (Ai @g67 (Ai @g66 (Ai @eye_lt_nat (decide_eq_true hin)))) ?_
     refine wK fun K3 hK3=>?_
     refine jE ?_
     refine awp_skip ?_
     refine hK3 _ _ ?_;clear hK3 K3
     refine wK fun K4 hK4=>?_
     refine awp_block ?_
     have hgei : (0 : Int)≤(i : Int):=by omega
     have huat:=eat_int hin
     have hub:=hur.2 nu[i] (List.getElem_mem hin)
     have hsn:=unmL_snoc (skip:=skip) hin
     have hlen:=unmL_len skip (nu.take i)
     have hlt : (nu.take i).length = i:=by rw [List.length_take]; omega
     generalize nu[i] = u at *
     have hend : ∀ (E : Env) (s3 : AS) (x3 : AV),E 67 = .v (.int .i64 i)→E 66 = .v (.int .i64 nu.length)→E 65 = .sl 1 nu.length (nu.map intC) .any→E 2 = .sl 1 skip.length (skip.map intC) .any→E 3 = x3→RBuf 1 s0 s3 x3 (k + SL.length + (unmL skip (nu.take (i + 1))).length) (cs ++ SL.map intC ++ (unmL skip (nu.take (i + 1))).map intC)→s0.le s3→K4 E s3:=by
      intro E s3 x3 f67 f66 f65 f2 f3 fx fle
      refine hK4 _ _ ?_;clear hK4 K4
      refine jD (Ai @f67 (eye_succM i (by omega))) ?_
      refine ⟨⟨i + 1,x3,by omega,by simp only [upd,Nc,↓reduceIte],by simp only [upd,f66,Nc,↓reduceIte],by simp only [upd,f65,Nc,↓reduceIte],by simp only [upd,f2,Nc,↓reduceIte],by simp only [upd,f3,Nc,↓reduceIte],fx,fle⟩,?_⟩
      simp only [g67,upd,↓reduceIte]
      omega
     clear hK4
     rw [hsn] at hend
     generalize unmL skip (nu.take i) = F at *
     generalize hCS : cs ++ SL.map intC = CS at *
     refine jB (Ai @g65 (Ai @g67 (Ai @eye_lt_nat (Ai @hin (Ai @hgei (Ai @huat @intC.eq_1)))))) ?_
     refine jS @g2 fun K hK=>?_
     refine acallk (hcc _ _) ?_
     rintro r s3 ⟨rfl,rfl⟩
     by_cases hs : u ∈ skip
     ·rw [decide_eq_true hs]
      rw [if_neg (fun q=>q hs),List.append_nil] at hend
      refine jR hK ?_;clear hK K
      refine jF ?_
      refine awp_skip ?_
      simp only [blockQ,thenQ,if_true,if_false]
      exact hend _ _ _ (by simp only [upd,g67,Nc,↓reduceIte]) (by simp only [upd,g66,Nc,↓reduceIte]) (by simp only [upd,g65,Nc,↓reduceIte]) (by simp only [upd,g2,Nc,↓reduceIte]) (by simp only [upd,g3,Nc,↓reduceIte]) hx hle
     ·rw [decide_eq_false hs]
      rw [if_pos hs] at hend
      have e2 : imul .i64 2 u = 2 * u:=imul_i64 (by omega)
      rw [List.length_append,List.length_singleton,List.map_append,List.map_cons,List.map_nil,← Nat.add_assoc,← List.append_assoc] at hend
      refine jR hK ?_;clear hK K
      refine jE ?_
      rcases hx with ⟨rfl,hi0,hL0⟩ | ⟨t',e,rfl,ht',ht0⟩
      ·refine wE fun K hK=>?_
       simp only [↓DN,Qa,Qb,Qc,Qd,Qe,Qf,Qg,Qh,reduceCtorEq,↓reduceIte,Na,Nb,Nc,Nk,Nf,Ng,Nh,Za,Zb,Zc,TT,g3,e2,nilS,List.replicate_succ]
       intro t' ht'
       refine hK _ _ ?_
       simp only [blockQ,thenQ,if_true,if_false]
       rw [hi0,hL0] at hend
       exact hend _ _ (.sl 1 1 [.v (.int .i64 (2 * u))] (.own t' 0)) (by simp only [upd,g67,Nc,↓reduceIte]) (by simp only [upd,g66,Nc,↓reduceIte]) (by simp only [upd,g65,Nc,↓reduceIte]) (by simp only [upd,g2,Nc,↓reduceIte]) (by simp only [upd,Nc,↓reduceIte]) (.inr ⟨t',0,rfl,by simp [AS.gain],own_none_le hle ht'⟩) (AS.le_gain hle (own_none_le hle ht') 0)
      ·refine wE fun K hK=>?_
       simp only [↓DN,Qa,Qb,Qc,Qd,Qe,Qf,Qg,Qh,reduceCtorEq,↓reduceIte,Na,Nb,Nc,Nk,Nf,Ng,Nh,Za,Zb,Zc,TT,g3,e2,ht',List.replicate_succ]
       refine ⟨by omega,by omega,hK _ _ ?_⟩
       simp only [blockQ,thenQ,if_true,if_false]
       exact hend _ _ (.sl 1 (k + SL.length + F.length + 1) (CS ++ (F.map intC ++ [.v (.int .i64 (2 * u))])) (.own t' (e + 1))) (by simp only [upd,g67,Nc,↓reduceIte]) (by simp only [upd,g66,Nc,↓reduceIte]) (by simp only [upd,g65,Nc,↓reduceIte]) (by simp only [upd,g2,Nc,↓reduceIte]) (by simp only [upd,Nc,↓reduceIte]) (.inr ⟨t',e + 1,by rw [List.append_assoc]; rfl,by simp [AS.gain],ht0⟩) (AS.le_gain hle ht0 (e + 1))
    ·refine jB (Ai @g67 (Ai @g66 (Ai @eye_lt_nat (decide_eq_false hin)))) ?_
     refine wK fun K3 hK3=>?_
     refine jF ?_
     refine awp_exit ?_
     simp only [thenQ,blockQ,if_true]
     refine hK2 _ _ ?_;clear hK2 K2 hK3 K3
     rw [List.take_of_length_le (by omega)] at hx
     refine jB @g3 ?_
     refine jI ?_
     refine ⟨_,_,AV.weak.refl _,AS.le.refl _,?_,hle⟩
     rw [List.length_append,List.map_append,← Nat.add_assoc,← List.append_assoc]
     exact hx
  clear hK1
  refine awp_block ?_
  refine wK fun K3 hK3=>?_
  have h3 : ∀ (E : Env),E 1 = .v (.int .i64 n)→E 2 = .sl 1 skip.length (skip.map intC) .any→E 9 = .rop [.v (.int .i64 nk),.sl 1 nm.length (nm.map byteV) .any,.v (.int .u64 ny),.sl 1 npa.length (npa.map byteV) .any,.sl 1 nu.length (nu.map intC) .any]→E 3 = x→E 25 = .v (.bool false)→K3 E s:=by
   clear g0 g1 g2 g3 g9 g10 g11
   intro E g1 g2 g9 g3 g25
   refine hK3 _ _ ?_;clear hK3 K3
   refine wC fun X Y hX hY=>?_
   simp only [↓DN,Qa,Qb,Qc,Qd,Qe,Qf,Qg,Qh,reduceCtorEq,↓reduceIte,Na,Nb,Nc,Nk,Nf,Ng,Nh,Za,Zb,Zc,TT,DB,g25]
   refine hY ?_;clear hX hY X Y
   refine wK fun K2 hK2=>?_
   have h2 : ∀ (E : Env) (b : Bool),(b = true↔(nk = 1∧((n / 2 : Nat) : Int) ∉ skip)∨nk = 2)→E 1 = .v (.int .i64 n)→E 2 = .sl 1 skip.length (skip.map intC) .any→E 9 = .rop [.v (.int .i64 nk),.sl 1 nm.length (nm.map byteV) .any,.v (.int .u64 ny),.sl 1 npa.length (npa.map byteV) .any,.sl 1 nu.length (nu.map intC) .any]→E 3 = x→E 46 = .v (.bool b)→K2 E s:=by
    clear g1 g2 g3 g9 g25
    intro E b hb g1 g2 g9 g3 g46
    refine hK2 _ _ ?_;clear hK2 K2
    cases b with
    | false =>
     rw [if_neg (fun q=>by have:=hb.2 q; cases this)] at hselfd
     subst hselfd
     refine wC fun X Y hX hY=>?_
     simp only [↓DN,Qa,Qb,Qc,Qd,Qe,Qf,Qg,Qh,reduceCtorEq,↓reduceIte,Na,Nb,Nc,Nk,Nf,Ng,Nh,Za,Zb,Zc,TT,DB,g46]
     refine hY ?_;clear hX hY X Y
     refine awp_skip ?_
     simp only [blockQ,thenQ,if_true,if_false]
     refine h1 _ _ x (by simp only [upd,g1,Nc,↓reduceIte]) (by simp only [upd,g2,Nc,↓reduceIte]) (by simp only [upd,g9,Nc,↓reduceIte]) (by simp only [upd,g3,Nc,↓reduceIte]) ?_ hle
     simpa using hx
    | true =>
     rw [if_pos (hb.1 rfl)] at hselfd
     subst hselfd
     refine wC fun X Y hX hY=>?_
     simp only [↓DN,Qa,Qb,Qc,Qd,Qe,Qf,Qg,Qh,reduceCtorEq,↓reduceIte,Na,Nb,Nc,Nk,Nf,Ng,Nh,Za,Zb,Zc,TT,DB,g46]
     refine hX ?_;clear hX hY X Y
     rcases hx with ⟨rfl,hi0,hL0⟩ | ⟨t',e,rfl,ht',ht0⟩
     ·refine wE fun K hK=>?_
      simp only [↓DN,Qa,Qb,Qc,Qd,Qe,Qf,Qg,Qh,reduceCtorEq,↓reduceIte,Na,Nb,Nc,Nk,Nf,Ng,Nh,Za,Zb,Zc,TT,g3,g1,nilS,List.replicate_succ]
      intro t' ht'
      refine hK _ _ ?_
      simp only [blockQ,thenQ,if_true,if_false]
      rw [hi0,hL0] at h1
      exact h1 _ _ (.sl 1 1 [.v (.int .i64 (n : Int))] (.own t' 0)) (by simp only [upd,g1,Nc,↓reduceIte]) (by simp only [upd,g2,Nc,↓reduceIte]) (by simp only [upd,g9,Nc,↓reduceIte]) (by simp only [upd,Nc,↓reduceIte]) (.inr ⟨t',0,rfl,by simp [AS.gain],own_none_le hle ht'⟩) (AS.le_gain hle (own_none_le hle ht') 0)
     ·refine wE fun K hK=>?_
      simp only [↓DN,Qa,Qb,Qc,Qd,Qe,Qf,Qg,Qh,reduceCtorEq,↓reduceIte,Na,Nb,Nc,Nk,Nf,Ng,Nh,Za,Zb,Zc,TT,g3,g1,ht',List.replicate_succ]
      refine ⟨by omega,by omega,hK _ _ ?_⟩
      simp only [blockQ,thenQ,if_true,if_false]
      exact h1 _ _ (.sl 1 (k + 1) (cs ++ [.v (.int .i64 (n : Int))]) (.own t' (e + 1))) (by simp only [upd,g1,Nc,↓reduceIte]) (by simp only [upd,g2,Nc,↓reduceIte]) (by simp only [upd,g9,Nc,↓reduceIte]) (by simp only [upd,Nc,↓reduceIte]) (.inr ⟨t',e + 1,rfl,by simp [AS.gain],ht0⟩) (AS.le_gain hle ht0 (e + 1))
   clear hK2
   refine wK fun K4 hK4=>?_
   have h4 : ∀ (E : Env) (b : Bool),(b = true↔nk = 1∧((n / 2 : Nat) : Int) ∉ skip)→E 1 = .v (.int .i64 n)→E 2 = .sl 1 skip.length (skip.map intC) .any→E 9 = .rop [.v (.int .i64 nk),.sl 1 nm.length (nm.map byteV) .any,.v (.int .u64 ny),.sl 1 npa.length (npa.map byteV) .any,.sl 1 nu.length (nu.map intC) .any]→E 3 = x→E 46 = .v (.bool b)→K4 E s:=by
    clear g1 g2 g9 g3 g25
    intro E b hb g1 g2 g9 g3 g46
    refine hK4 _ _ ?_;clear hK4 K4
    cases b with
    | true =>
     refine wC fun X Y hX hY=>?_
     simp only [↓DN,Qa,Qb,Qc,Qd,Qe,Qf,Qg,Qh,reduceCtorEq,↓reduceIte,Na,Nb,Nc,Nk,Nf,Ng,Nh,Za,Zb,Zc,TT,DB,g46]
     refine hX ?_;clear hX hY X Y
     refine awp_skip ?_
     exact h2 _ true ⟨fun _=>.inl (hb.1 rfl),fun _=>rfl⟩ (by simp only [upd,g1,Nc,↓reduceIte]) (by simp only [upd,g2,Nc,↓reduceIte]) (by simp only [upd,g9,Nc,↓reduceIte]) (by simp only [upd,g3,Nc,↓reduceIte]) (by simp only [upd,g46,Nc,↓reduceIte])
    | false =>
     refine wC fun X Y hX hY=>?_
     simp only [↓DN,Qa,Qb,Qc,Qd,Qe,Qf,Qg,Qh,reduceCtorEq,↓reduceIte,Na,Nb,Nc,Nk,Nf,Ng,Nh,Za,Zb,Zc,TT,DB,g46]
     refine hY ?_;clear hX hY X Y
     have hb' : ¬ (nk = 1∧((n / 2 : Nat) : Int) ∉ skip):=fun q=>by have:=hb.2 q; cases this
     by_cases k2 : nk = 2
     ·refine jU (Ai @g9 (yesI k2)) fun K hK=>?_
      exact hK _ _ (h2 _ true ⟨fun _=>.inr k2,fun _=>rfl⟩ (by simp only [upd,g1,Nc,↓reduceIte]) (by simp only [upd,g2,Nc,↓reduceIte]) (by simp only [upd,g9,Nc,↓reduceIte]) (by simp only [upd,g3,Nc,↓reduceIte]) (by simp only [upd,Nc,↓reduceIte]))
     ·refine jU (Ai @g9 (notI k2)) fun K hK=>?_
      exact hK _ _ (h2 _ false ⟨(by intro h; cases h),fun q=>by rcases q with q | q; exact absurd q hb'; exact absurd q k2⟩ (by simp only [upd,g1,Nc,↓reduceIte]) (by simp only [upd,g2,Nc,↓reduceIte]) (by simp only [upd,g9,Nc,↓reduceIte]) (by simp only [upd,g3,Nc,↓reduceIte]) (by simp only [upd,Nc,↓reduceIte]))
   clear hK4
   by_cases k1 : nk = 1
   ·refine jU (Ai @g9 (Ai (yesI k1) (Ai @g2 (Ai @g1 (Ai @two0 (iquo_nat n (by omega))))))) fun K hK=>?_
    refine acallk (hcc _ _) ?_
    rintro r s1 ⟨rfl,rfl⟩
    by_cases hs : ((n / 2 : Nat) : Int) ∈ skip
    ·rw [decide_eq_true hs]
     simp only [↓DM,pval,DX,Nz,↓DN,Qa,Qb,Qc,Qd,Qe,Qf,Qg,Qh,reduceCtorEq,↓reduceIte,Na,Nb,Nc,Nk,Nf,Ng,Nh,Za,Zb,Zc,TT]
     exact hK _ _ (h4 _ false ⟨(by intro h; cases h),fun q=>absurd hs q.2⟩ (by simp only [upd,g1,Nc,↓reduceIte]) (by simp only [upd,g2,Nc,↓reduceIte]) (by simp only [upd,g9,Nc,↓reduceIte]) (by simp only [upd,g3,Nc,↓reduceIte]) (by simp only [upd,Nc,↓reduceIte]))
    ·rw [decide_eq_false hs]
     simp only [↓DM,pval,DX,Nz,↓DN,Qa,Qb,Qc,Qd,Qe,Qf,Qg,Qh,reduceCtorEq,↓reduceIte,Na,Nb,Nc,Nk,Nf,Ng,Nh,Za,Zb,Zc,TT]
     exact hK _ _ (h4 _ true ⟨fun _=>⟨k1,hs⟩,fun _=>rfl⟩ (by simp only [upd,g1,Nc,↓reduceIte]) (by simp only [upd,g2,Nc,↓reduceIte]) (by simp only [upd,g9,Nc,↓reduceIte]) (by simp only [upd,g3,Nc,↓reduceIte]) (by simp only [upd,Nc,↓reduceIte]))
   ·refine jU (Ai @g9 (notI k1)) fun K hK=>?_
    exact hK _ _ (h4 _ false ⟨(by intro h; cases h),fun q=>absurd q.1 k1⟩ (by simp only [upd,g1,Nc,↓reduceIte]) (by simp only [upd,g2,Nc,↓reduceIte]) (by simp only [upd,g9,Nc,↓reduceIte]) (by simp only [upd,g3,Nc,↓reduceIte]) (by simp only [upd,Nc,↓reduceIte]))
  clear hK3
  by_cases k0 : nk = 0
  ·obtain rfl : ok = false:=by
    cases ok with
    | false=>rfl
    | true=>exact absurd k0 (hok rfl)
   refine jU (Ai @g9 (Ai @g11 (yesI k0))) fun K hK=>?_
   exact hK _ _ (h3 _ (by simp only [upd,g1,Nc,↓reduceIte]) (by simp only [upd,g2,Nc,↓reduceIte]) (by simp only [upd,g9,Nc,↓reduceIte]) (by simp only [upd,g3,Nc,↓reduceIte]) (by simp only [upd,Nc,↓reduceIte]))
  ·refine jU (Ai @g9 (notI k0)) fun K hK=>?_
   exact hK _ _ (h3 _ (by simp only [upd,g1,Nc,↓reduceIte]) (by simp only [upd,g2,Nc,↓reduceIte]) (by simp only [upd,g9,Nc,↓reduceIte]) (by simp only [upd,g3,Nc,↓reduceIte]) (by simp only [upd,Nc,↓reduceIte]))
 clear hK0
 rcases hself with hself | hself
 ·rw [hself] at hlc
  refine jT fun K hK=>?_
  refine acallk (hlc _) ?_
  rintro r s1 ⟨rfl,rfl⟩
  simp only [↓DM,pval,DX,Nz,↓DN,Qa,Qb,Qc,Qd,Qe,Qf,Qg,Qh,reduceCtorEq,↓reduceIte,Na,Nb,Nc,Nk,Nf,Ng,Nh,Za,Zb,Zc,TT]
  exact hK _ _ (h0 _ 0 false (by intro h; cases h) (by simp only [upd,initE,List.getD_cons_zero,List.getD_cons_succ,Nc,↓reduceIte]) (by simp only [upd,initE,List.getD_cons_zero,List.getD_cons_succ,Nc,↓reduceIte]) (by simp only [upd,initE,List.getD_cons_zero,List.getD_cons_succ,Nc,↓reduceIte]) (by simp only [upd,initE,List.getD_cons_zero,List.getD_cons_succ,Nc,↓reduceIte]) (by simp only [upd,Nc,↓reduceIte]) (by simp only [upd,Nc,↓reduceIte]) (by simp only [upd,Nc,↓reduceIte]))
 ·cases hkd : kidsI (n : Int) with
  | none =>
   rw [hkd] at hlc
   refine jT fun K hK=>?_
   refine acallk (hlc _) ?_
   rintro r s1 ⟨rfl,rfl⟩
   simp only [↓DM,pval,DX,Nz,↓DN,Qa,Qb,Qc,Qd,Qe,Qf,Qg,Qh,reduceCtorEq,↓reduceIte,Na,Nb,Nc,Nk,Nf,Ng,Nh,Za,Zb,Zc,TT]
   exact hK _ _ (h0 _ 0 false (by intro h; cases h) (by simp only [upd,initE,List.getD_cons_zero,List.getD_cons_succ,Nc,↓reduceIte]) (by simp only [upd,initE,List.getD_cons_zero,List.getD_cons_succ,Nc,↓reduceIte]) (by simp only [upd,initE,List.getD_cons_zero,List.getD_cons_succ,Nc,↓reduceIte]) (by simp only [upd,initE,List.getD_cons_zero,List.getD_cons_succ,Nc,↓reduceIte]) (by simp only [upd,Nc,↓reduceIte]) (by simp only [upd,Nc,↓reduceIte]) (by simp only [upd,Nc,↓reduceIte]))
  | some p =>
   rw [hkd] at hlc
   refine jT fun K hK=>?_
   refine acallk (hlc _) ?_
   rintro r s1 ⟨rfl,rfl⟩
   simp only [↓DM,pval,DX,Nz,↓DN,Qa,Qb,Qc,Qd,Qe,Qf,Qg,Qh,reduceCtorEq,↓reduceIte,Na,Nb,Nc,Nk,Nf,Ng,Nh,Za,Zb,Zc,TT]
   exact hK _ _ (h0 _ p.1 true (fun _=>hself) (by simp only [upd,initE,List.getD_cons_zero,List.getD_cons_succ,Nc,↓reduceIte]) (by simp only [upd,initE,List.getD_cons_zero,List.getD_cons_succ,Nc,↓reduceIte]) (by simp only [upd,initE,List.getD_cons_zero,List.getD_cons_succ,Nc,↓reduceIte]) (by simp only [upd,initE,List.getD_cons_zero,List.getD_cons_succ,Nc,↓reduceIte]) (by simp only [upd,Nc,↓reduceIte]) (by simp only [upd,Nc,↓reduceIte]) (by simp only [upd,Nc,↓reduceIte]))
end Go.Proofs.YtfjlmkifiihgkaaGreatDoor
namespace Go.Proofs.YtfjlmkifiihgkaaGreatDoor
open Go Go.AM Go.Proofs
variable {Γ : Nat→List AV}
theorem resolve20_calls (hG : Γ 3 = dB64.map u8C) (t : List NodeV) (hrt : rightT t) (skip : List Int) (hsk : skip.length≤2 ^ 61) : ∀ (l n : Nat),lv n = l→n < 63→n + 2 ^ l≤t.length →
  ∀ (s0 s : AS) (x : AV) (k : Nat) (cs : List AV),RBuf 1 s0 s x k cs→s0.le s→k + 33 * 2 ^ l≤100000 →
  ACalls Tryz.prog Γ 76 [treeV t,.v (.int .i64 n),intsV skip .any,x] s (RES s0 k cs (resF t skip l n)):=by
 intro l
 induction l with
 | zero =>
  intro n hl hn hs s0 s x k cs hx hle hk
  exact resolveSelf_calls hG t hrt skip hsk n hn (by have : (2 : Nat) ^ 0 = 1:=rfl; omega) (.inl (kids_leaf hn hl)) s0 s x k cs hx hle (by have : (2 : Nat) ^ 0 = 1:=rfl; omega)
 | succ l ih =>
  intro n hl hn hs s0 s x k cs hx hle hk
  have hpos : 0 < 2 ^ l:=Nat.two_pow_pos l
  have hpow : 2 ^ (l + 1) = 2 ^ l + 2 ^ l:=by rw [Nat.pow_succ]; omega
  have hi : n < t.length:=by omega
  by_cases k0 : (nd t n).kind = 0
  ·have hres : resF t skip (l + 1) n = resF t skip l (n - 2 ^ l) ++ resF t skip l (n + 2 ^ l):=by simp only [resF]; exact if_pos k0
   rw [hres]
   refine acalls_body Tryz.func76 rfl Tryz.ntmps76 Tryz.results76 (by simp) ?_
   obtain ⟨hkd,hl1,hl2,hb1,hb2,hb3⟩:=kids_branch hn hl
   have hlc:=fun s=>left18_calls (Γ:=Γ) hG (n : Int) (by omega) s
   have hrc:=fun s=>right18_calls (Γ:=Γ) hG (n : Int) (by omega) s
   rw [hkd] at hlc hrc
   have hlen1:=resF_len hrt skip l (n - 2 ^ l)
   have h1:=fun s hle=>ih (n - 2 ^ l) hl1 (by omega) (by omega) s0 s x k cs hle
   have h2:=fun s r hx=>ih (n + 2 ^ l) hl2 hb1 (by omega) s0 s r (k + (resF t skip l (n - 2 ^ l)).length) (cs ++ (resF t skip l (n - 2 ^ l)).map intC) hx
   have hat:=node_at hi
   clear ih hres
   generalize resF t skip l (n - 2 ^ l) = L1 at *
   generalize resF t skip l (n + 2 ^ l) = L2 at *
   generalize nd t n = N at *
   unfold treeV at *
   generalize rowC NodeV.cells t = X at *
   obtain ⟨nk,nm,ny,npa,nu⟩:=N
   unfold NodeV.cells at hat
   unfold intsV at *
   simp only at k0
   subst k0
   have hge : (0 : Int)≤(n : Int):=by omega
   refine jA ?_
   refine awp_reg_frz 9 (by decide) ?_
   intro K hK
   simp only [↓DM,pval,DX,Nz,↓DN,Qa,Qb,Qc,Qd,Qe,Qf,Qg,Qh,reduceCtorEq,↓reduceIte,Na,Nb,Nc,Nk,Nf,Ng,Nh,Za,Zb,Zc,TT,eye_lt_nat,hi,hge,hat]
   intro o1 ho1
   refine hK _ _ o1 _ (by simp only [upd,Nc,↓reduceIte]) ho1 ?_
   clear hK K ho1
   refine jK (hlc _) ?_;rintro s1 rfl
   refine wK fun K1 hK1=>?_
   refine awp_block ?_
   refine jA ?_
   refine jE ?_
   refine jK (hrc _) ?_;rintro s2 rfl
   refine jQ fun K hK=>?_
   refine acallk (h1 _ hx hle (by omega)) ?_
   rintro r s3 ⟨hx3,hle3⟩
   simp only [↓DM,pval,DX,Nz,↓DN,Qa,Qb,Qc,Qd,Qe,Qf,Qg,Qh,reduceCtorEq,↓reduceIte,Na,Nb,Nc,Nk,Nf,Ng,Nh,Za,Zb,Zc,TT]
   refine acallk (h2 _ _ hx3 hle3 (by omega)) ?_
   rintro r2 s4 ⟨hx4,hle4⟩
   refine jR hK ?_;clear hK K
   refine jI ?_
   refine ⟨_,_,AV.weak.refl _,AS.le.refl _,?_,hle4⟩
   rw [List.length_append,List.map_append,← Nat.add_assoc,← List.append_assoc]
   exact hx4
  ·have hres : resF t skip (l + 1) n = selfL skip (nd t n) n ++ unmL skip (nd t n).unm:=by simp only [resF]; exact if_neg k0
   rw [hres]
   exact resolveSelf_calls hG t hrt skip hsk n hn hi (.inr k0) s0 s x k cs hx hle (by omega)
theorem resolvePub_calls (hG : Γ 3 = dB64.map u8C) (t : List NodeV) (ht : TreeW t) (x : Int) (skip : List Int) (hsk : skip.length≤2 ^ 61) (s : AS) :
  ACalls Tryz.prog Γ 18 [treeV t,.v (.int .i64 x),intsV skip .any] s (fun r s'=>r = intsV (ResolveT t x skip) .any∧s' = s):=by
 refine acalls_body Tryz.func18 rfl Tryz.ntmps18 Tryz.results18 (by simp) ?_
 have hr:=fun s=>right20_calls (Γ:=Γ) hG t ht s
 have hh:=fun (hrt : rightT t) n hn hs s=>resolve20_calls (Γ:=Γ) hG t hrt skip hsk (lv n) n rfl hn hs s s nilS 0 [] (RBuf.nil _ _ _) (AS.le.refl _)
 have htl:=ht.1
 have hno : ¬ (0≤x∧x < (t.length : Int)∧rightT t)→ResolveT t x skip = []:=fun h=>if_neg h
 have hyes : 0≤x∧x < (t.length : Int)∧rightT t→ResolveT t x skip = resF t skip (lv x.toNat) x.toNat:=fun h=>if_pos h
 unfold treeV at *
 generalize rowC NodeV.cells t = X at *
 unfold nilS at hh
 refine jA ?_
 refine wK fun K hK=>?_
 by_cases h0 : x < 0
 ·refine jB (decide_eq_true h0) ?_
  refine jE ?_
  refine jA ?_
  refine jI ?_
  refine ⟨_,_,AV.weak_nil (sz:=1),AS.le.refl _,?_,rfl⟩
  rw [hno (fun k=>by omega)]
  rfl
 ·by_cases h1 : (t.length : Int)≤x
  ·refine jB (Ai (decide_eq_false h0) (decide_eq_true h1)) ?_
   refine jE ?_
   refine jA ?_
   refine jI ?_
   refine ⟨_,_,AV.weak_nil (sz:=1),AS.le.refl _,?_,rfl⟩
   rw [hno (fun k=>by omega)]
   rfl
  ·refine jS (Ai (decide_eq_false h0) (decide_eq_false h1)) fun K hK=>?_
   refine acallk (hr _) ?_
   rintro r s1 ⟨rfl,rfl⟩
   by_cases hrt : rightT t
   ·rw [decide_eq_true hrt]
    refine jR hK ?_;clear hK K
    refine jF ?_
    refine awp_skip ?_
    refine hK _ _ ?_;clear hK K
    obtain ⟨n,rfl⟩:=Int.eq_ofNat_of_zero_le (show 0≤x by omega)
    have hn : n < t.length:=by omega
    obtain ⟨hs1,hs2⟩:=hrt.span hn
    have hpl:=pow_le5 (lv_le n)
    refine jQ fun K hK=>?_
    refine acallk (hh hrt n hs2 hs1 _ (by omega)) ?_
    rintro r s2 ⟨hx,hle⟩
    refine jR hK ?_;clear hK K
    refine jI ?_
    refine ⟨_,_,hx.weak,hle,?_,rfl⟩
    rw [hyes ⟨by omega,by omega,hrt⟩,Int.toNat_natCast]
    unfold intsV
    rw [Nat.zero_add,List.nil_append]
   ·rw [decide_eq_false hrt]
    refine jR hK ?_;clear hK K
    refine jE ?_
    refine jA ?_
    refine jI ?_
    refine ⟨_,_,AV.weak_nil (sz:=1),AS.le.refl _,?_,rfl⟩
    rw [hno (fun k=>hrt k.2.2)]
    rfl
end Go.Proofs.YtfjlmkifiihgkaaGreatDoor
