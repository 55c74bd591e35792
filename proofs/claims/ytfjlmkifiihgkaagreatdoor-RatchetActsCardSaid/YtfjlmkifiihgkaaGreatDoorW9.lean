/- Contracts of the program's functions, each walked once; the conditions stand in each theorem. -/
import Derived.Test.YtfjlmkifiihgkaaGreatDoorAMp6
import Derived.Test.YtfjlmkifiihgkaaGreatDoorW1
import Derived.Test.YtfjlmkifiihgkaaGreatDoorW8
import Derived.Test.YtfjlmkifiihgkaaGreatDoorW6
import Derived.Test.YtfjlmkifiihgkaaGreatDoorW5
set_option linter.unusedSimpArgs false
set_option linter.unusedVariables false
open Nat renaming reduceLT → Na, reduceLeDiff → Nb, reduceEqDiff → Nc, reduceAdd → Nk, reduceMul → Nf, reducePow → Ng, reduceSub → Nh, reduceBEq → Nz
open Int renaming reduceLT → Za, reduceLE → Zb, reduceToNat → Zc
open And renaming intro → Ai
open Go.AM renaming ashift → Qa, aconv → Qb, aindexAddr → Qc, aindex → Qd, aslice → Qe, abuiltin → Qf, awp_reg_seq → wS, awp_reg_end → wE, awp_seq_k → wK, awp_cond_k → wC
open Go.AM.AV renaming cells → Qg, one → Qh
set_option maxRecDepth 100000
set_option maxHeartbeats 8000000
set_option autoImplicit false
namespace Go.Proofs.YtfjlmkifiihgkaaGreatDoor
open Go Go.AM Go.Proofs
variable {Γ : Nat→List AV}
theorem refLeafHash_calls (n : Nat) (hn : n < 32) (N : NodeV) (hr : N.right) (s : AS) :
  ACalls Tryz.prog Γ 80 [.v (.int .i64 (n : Int)),.agg N.cells] s (fun r s'=>r = .v (.string ⟨(Sha.sum (leafB (n : Int) N)).toArray⟩)∧s' = s):=by
 refine acalls_body Tryz.func80 rfl Tryz.ntmps80 Tryz.results80 (by simp) ?_
 have hw:=fun s=>refNodeWrite_calls (Γ:=Γ) N hr s
 have hT:=NodeV.text_len hr
 have hB : leafB (n : Int) N = 1 :: (be 4 n ++ N.text):=rfl
 have hbl : (leafB (n : Int) N).length≤110:=by rw [hB]; simp; omega
 have hsm:=fun s=>refSum_calls (Γ:=Γ) (leafB (n : Int) N) (by omega) s
 rw [hB] at hsm hbl
 rw [show leafB (n : Int) N = 1 :: (be 4 n ++ N.text) from rfl]
 generalize N.text = tx at *
 unfold NodeV.cells at *
 refine awp_reg_frz 3 (by simp [dsts]) ?_
 intro K hK
 simp only [↓DM,pval,DX,Nz,↓DN,Qa,Qb,Qc,Qd,Qe,Qf,Qg,Qh,reduceCtorEq,↓reduceIte,Na,Nb,Nc,Nk,Nf,Ng,Nh,Za,Zb,Zc,TT,intsV]
 intro o ho
 refine hK _ _ o _ (by simp only [upd,Nc,↓reduceIte]) ho ?_
 clear hK K ho
 refine awp_drw_seq T.mixed [2,5,7] (by kernel_rfl) ?_
 intro K hK
 simp only [↓DM,pval,DX,Nz,↓DN,Qa,Qb,Qc,Qd,Qe,Qf,Qg,Qh,reduceCtorEq,↓reduceIte,Na,Nb,Nc,Nk,Nf,Ng,Nh,Za,Zb,Zc,TT,intsV,iconv_u64_nat n (show n < 2 ^ 64 by omega)]
 refine acallk (refNumber_calls n 4 (by omega) (by omega) _) ?_
 rintro r s1 ⟨rfl,rfl⟩
 simp only [↓DM,pval,DX,Nz,↓DN,Qa,Qb,Qc,Qd,Qe,Qf,Qg,Qh,reduceCtorEq,↓reduceIte,Na,Nb,Nc,Nk,Nf,Ng,Nh,Za,Zb,Zc,TT,intsV,length_be]
 refine acallk (hw _) ?_
 rintro r s2 ⟨rfl,rfl⟩
 simp only [↓DM,pval,DX,Nz,↓DN,Qa,Qb,Qc,Qd,Qe,Qf,Qg,Qh,reduceCtorEq,↓reduceIte,Na,Nb,Nc,Nk,Nf,Ng,Nh,Za,Zb,Zc,TT,intsV,length_be,i64_room (show 4 + 1 + tx.length < 2 ^ 62 by omega),i64_room (show 5 + tx.length < 2 ^ 62 by omega)]
 refine acallk (hsm _) ?_
 rintro r s3 ⟨rfl,rfl⟩
 refine jR hK ?_;clear hK K
 exact jJ
theorem refBranchHash_calls (N : NodeV) (hr : N.right) (x y : List UInt8) (hxy : x.length + y.length≤2 ^ 30) (s : AS) :
  ACalls Tryz.prog Γ 81 [.agg N.cells,.v (.string ⟨x.toArray⟩),.v (.string ⟨y.toArray⟩)] s (fun r s'=>r = .v (.string ⟨(Sha.sum (branchB N x y)).toArray⟩)∧s' = s):=by
 refine acalls_body Tryz.func81 rfl Tryz.ntmps81 Tryz.results81 (by simp) ?_
 have hw:=fun s=>refNodeWrite_calls (Γ:=Γ) N hr s
 have hT:=NodeV.text_len hr
 have hB : branchB N x y = 2 :: (N.text ++ (x ++ y)):=rfl
 have hsm:=fun s=>refSum_calls (Γ:=Γ) (branchB N x y) (by rw [hB]; simp; omega) s
 rw [hB] at hsm ⊢
 generalize N.text = tx at *
 unfold NodeV.cells at *
 refine awp_reg_frz 3 (by simp [dsts]) ?_
 intro K hK
 simp only [↓DM,pval,DX,Nz,↓DN,Qa,Qb,Qc,Qd,Qe,Qf,Qg,Qh,reduceCtorEq,↓reduceIte,Na,Nb,Nc,Nk,Nf,Ng,Nh,Za,Zb,Zc,TT,intsV]
 intro o ho
 refine hK _ _ o _ (by simp only [upd,Nc,↓reduceIte]) ho ?_
 clear hK K ho
 refine jS @intsV.eq_1 fun K hK=>?_
 refine acallk (hw _) ?_
 rintro r s2 ⟨rfl,rfl⟩
 simp only [↓DM,pval,DX,Nz,↓DN,Qa,Qb,Qc,Qd,Qe,Qf,Qg,Qh,reduceCtorEq,↓reduceIte,Na,Nb,Nc,Nk,Nf,Ng,Nh,Za,Zb,Zc,TT,intsV,i64_room (show 1 + tx.length < 2 ^ 62 by omega),i64_room (show tx.length + 1 + x.length < 2 ^ 62 by omega),i64_room (show tx.length + (x.length + 1) + y.length < 2 ^ 62 by omega),i64_room (show tx.length + x.length + 1 + y.length < 2 ^ 62 by omega)]
 refine acallk (hsm _) ?_
 rintro r s3 ⟨rfl,rfl⟩
 refine jR hK ?_;clear hK K
 exact jJ
end Go.Proofs.YtfjlmkifiihgkaaGreatDoor
namespace Go.Proofs.YtfjlmkifiihgkaaGreatDoor
open Go Go.AM Go.Proofs
variable {Γ : Nat→List AV}
def hashF (t : List NodeV) : Nat→Nat→List UInt8
 | 0,n=>leafD ((n / 2 : Nat) : Int) (nd t n)
 | l + 1,n=>branchD (nd t n) (hashF t l (n - 2 ^ l)) (hashF t l (n + 2 ^ l))
theorem hashF_len (t : List NodeV) : ∀ l n,(hashF t l n).length≤32
 | 0,n=>by
  unfold hashF leafD
  split
  ·rw [Sha.sum_length]; exact Nat.le_refl _
  ·simp
 | l + 1,n=>by
  unfold hashF branchD
  split
  ·rw [Sha.sum_length]; exact Nat.le_refl _
  ·simp
theorem hash20_calls (hG0 : Γ 0 = stC Sha.H0) (hG1 : Γ 1 = Sha.K.map wV) (hG : Γ 3 = dB64.map u8C) (t : List NodeV) (ht : TreeW t) : ∀ (l n : Nat),lv n = l→n < 63→n + 2 ^ l≤t.length→∀ s,
  ACalls Tryz.prog Γ 77 [treeV t,.v (.int .i64 n)] s (fun r s'=>r = bytesV (hashF t l n) .any∧s' = s):=by
 intro l
 induction l with
 | zero =>
  intro n hl hn hs s
  refine acalls_body Tryz.func77 rfl Tryz.ntmps77 Tryz.results77 (by simp) ?_
  have hlc:=fun s=>left18_calls (Γ:=Γ) hG (n : Int) (by omega) s
  rw [kids_leaf hn hl] at hlc
  have hi : n < t.length:=by have : (2 : Nat) ^ 0 = 1:=rfl; omega
  have hat:=node_at hi
  have hH:=fun s=>leafHash_calls (Γ:=Γ) hG0 hG1 ((n / 2 : Nat) : Int) (by omega) (nd t n) (ht.nd n).1 s
  have hres : hashF t 0 n = leafD ((n / 2 : Nat) : Int) (nd t n):=rfl
  rw [hres]
  generalize leafD ((n / 2 : Nat) : Int) (nd t n) = D at *
  generalize nd t n = N at *
  unfold treeV
  generalize rowC NodeV.cells t = X at *
  obtain ⟨nk,nm,ny,npa,nu⟩:=N
  unfold NodeV.cells at hat hH
  unfold intsV at hat hH
  have hge : (0 : Int)≤(n : Int):=by omega
  refine jA ?_
  refine jK (hlc _) ?_;rintro s1 rfl
  refine wK fun K hK=>?_
  refine jA ?_
  refine jE ?_
  refine wS fun K hK=>?_
  simp only [↓DN,Qa,Qb,Qc,Qd,Qe,Qf,Qg,Qh,reduceCtorEq,↓reduceIte,Na,Nb,Nc,Nk,Nf,Ng,Nh,Za,Zb,Zc,TT,two0,iquo_nat n (by omega),eye_lt_nat,hi,hge,hat]
  refine acallk (hH _) ?_
  rintro r s2 ⟨rfl,rfl⟩
  refine jR hK ?_;clear hK K
  exact jJ
 | succ l ih =>
  intro n hl hn hs s
  refine acalls_body Tryz.func77 rfl Tryz.ntmps77 Tryz.results77 (by simp) ?_
  obtain ⟨hk,hl1,hl2,hb1,hb2,hb3⟩:=kids_branch hn hl
  have hlc:=fun s=>left18_calls (Γ:=Γ) hG (n : Int) (by omega) s
  have hrc:=fun s=>right18_calls (Γ:=Γ) hG (n : Int) (by omega) s
  rw [hk] at hlc hrc
  have hpos : 0 < 2 ^ l:=Nat.two_pow_pos l
  have hpow : 2 ^ (l + 1) = 2 ^ l + 2 ^ l:=by rw [Nat.pow_succ]; omega
  have hi : n < t.length:=by omega
  have hat:=node_at hi
  have h1:=fun s=>ih (n - 2 ^ l) hl1 (by omega) (by omega) s
  have h2:=fun s=>ih (n + 2 ^ l) hl2 hb1 (by omega) s
  have hB:=fun s=>branchHash_calls (Γ:=Γ) hG0 hG1 (nd t n) (ht.nd n).1 (hashF t l (n - 2 ^ l)) (hashF t l (n + 2 ^ l)) (by have:=hashF_len t l (n - 2 ^ l); have:=hashF_len t l (n + 2 ^ l); omega) s
  have hres : hashF t (l + 1) n = branchD (nd t n) (hashF t l (n - 2 ^ l)) (hashF t l (n + 2 ^ l)):=rfl
  rw [hres]
  clear ih hres
  generalize branchD (nd t n) (hashF t l (n - 2 ^ l)) (hashF t l (n + 2 ^ l)) = D at *
  generalize hashF t l (n - 2 ^ l) = H1 at *
  generalize hashF t l (n + 2 ^ l) = H2 at *
  generalize nd t n = N at *
  unfold treeV at *
  generalize rowC NodeV.cells t = X at *
  obtain ⟨nk,nm,ny,npa,nu⟩:=N
  unfold NodeV.cells at hat hB
  unfold intsV at hat hB
  have hge : (0 : Int)≤(n : Int):=by omega
  refine jA ?_
  refine jK (hlc _) ?_;rintro s1 rfl
  refine wK fun K hK=>?_
  refine jA ?_
  refine jF ?_
  refine awp_skip ?_
  refine hK _ _ ?_;clear hK K
  refine jK (hrc _) ?_;rintro s2 rfl
  refine awp_drw_seq T.mixed [6,9,10] (by kernel_rfl) ?_
  intro K hK
  simp only [↓DM,pval,DX,Nz,↓DN,Qa,Qb,Qc,Qd,Qe,Qf,Qg,Qh,reduceCtorEq,↓reduceIte,Na,Nb,Nc,Nk,Nf,Ng,Nh,Za,Zb,Zc,TT,eye_lt_nat,hi,hge,hat]
  refine acallk (h1 _) ?_
  rintro r s3 ⟨rfl,rfl⟩
  simp only [↓DM,pval,DX,Nz,↓DN,Qa,Qb,Qc,Qd,Qe,Qf,Qg,Qh,reduceCtorEq,↓reduceIte,Na,Nb,Nc,Nk,Nf,Ng,Nh,Za,Zb,Zc,TT]
  refine acallk (h2 _) ?_
  rintro r s4 ⟨rfl,rfl⟩
  simp only [↓DM,pval,DX,Nz,↓DN,Qa,Qb,Qc,Qd,Qe,Qf,Qg,Qh,reduceCtorEq,↓reduceIte,Na,Nb,Nc,Nk,Nf,Ng,Nh,Za,Zb,Zc,TT]
  refine acallk (hB _) ?_
  rintro r s5 ⟨rfl,rfl⟩
  refine jR hK ?_;clear hK K
  exact jJ
theorem leafD_right {t : List NodeV} (hr : rightT t) {n : Nat} (hn : n < 63) : leafD ((n / 2 : Nat) : Int) (nd t n) = Sha.sum (leafB ((n / 2 : Nat) : Int) (nd t n)):=by
 unfold leafD
 exact if_pos ⟨hr.nd n,by omega,by omega⟩
theorem branchD_right {t : List NodeV} (hr : rightT t) (n : Nat) (a b : List UInt8) : branchD (nd t n) a b = Sha.sum (branchB (nd t n) a b):=by
 unfold branchD
 exact if_pos (hr.nd n)
theorem refHash20_calls (t : List NodeV) (ht : TreeW t) (hr : rightT t) : ∀ (l n : Nat),lv n = l→n < 63→n + 2 ^ l≤t.length→∀ s,
  ACalls Tryz.prog Γ 22 [treeV t,.v (.int .i64 n)] s (fun r s'=>r = .v (.string ⟨(hashF t l n).toArray⟩)∧s' = s):=by
 intro l
 induction l with
 | zero =>
  intro n hl hn hs s
  refine acalls_body Tryz.func22 rfl Tryz.ntmps22 Tryz.results22 (by simp) ?_
  have hlc:=fun s=>refKids18_calls (Γ:=Γ) (n : Int) (by omega) s
  rw [kids_leaf hn hl] at hlc
  have hi : n < t.length:=by have : (2 : Nat) ^ 0 = 1:=rfl; omega
  have hat:=node_at hi
  have hH:=fun s=>refLeafHash_calls (Γ:=Γ) (n / 2) (by omega) (nd t n) (hr.nd n) s
  have hres : hashF t 0 n = Sha.sum (leafB ((n / 2 : Nat) : Int) (nd t n)):=leafD_right hr hn
  rw [hres]
  generalize Sha.sum (leafB ((n / 2 : Nat) : Int) (nd t n)) = D at *
  generalize nd t n = N at *
  unfold treeV
  generalize rowC NodeV.cells t = X at *
  obtain ⟨nk,nm,ny,npa,nu⟩:=N
  unfold NodeV.cells at hat hH
  unfold intsV at hat hH
  have hge : (0 : Int)≤(n : Int):=by omega
  refine jA ?_
  refine jK (hlc _) ?_;rintro s1 rfl
  refine wK fun K hK=>?_
  refine jA ?_
  refine jE ?_
  refine wS fun K hK=>?_
  simp only [↓DN,Qa,Qb,Qc,Qd,Qe,Qf,Qg,Qh,reduceCtorEq,↓reduceIte,Na,Nb,Nc,Nk,Nf,Ng,Nh,Za,Zb,Zc,TT,two0,iquo_nat n (by omega),eye_lt_nat,hi,hge,hat]
  refine acallk (hH _) ?_
  rintro r s2 ⟨rfl,rfl⟩
  refine jR hK ?_;clear hK K
  exact jJ
 | succ l ih =>
  intro n hl hn hs s
  refine acalls_body Tryz.func22 rfl Tryz.ntmps22 Tryz.results22 (by simp) ?_
  obtain ⟨hk,hl1,hl2,hb1,hb2,hb3⟩:=kids_branch hn hl
  have hlc:=fun s=>refKids18_calls (Γ:=Γ) (n : Int) (by omega) s
  rw [hk] at hlc
  have hpos : 0 < 2 ^ l:=Nat.two_pow_pos l
  have hpow : 2 ^ (l + 1) = 2 ^ l + 2 ^ l:=by rw [Nat.pow_succ]; omega
  have hi : n < t.length:=by omega
  have hat:=node_at hi
  have h1:=fun s=>ih (n - 2 ^ l) hl1 (by omega) (by omega) s
  have h2:=fun s=>ih (n + 2 ^ l) hl2 hb1 (by omega) s
  have hB:=fun s=>refBranchHash_calls (Γ:=Γ) (nd t n) (hr.nd n) (hashF t l (n - 2 ^ l)) (hashF t l (n + 2 ^ l)) (by have:=hashF_len t l (n - 2 ^ l); have:=hashF_len t l (n + 2 ^ l); omega) s
  have hres : hashF t (l + 1) n = Sha.sum (branchB (nd t n) (hashF t l (n - 2 ^ l)) (hashF t l (n + 2 ^ l))):=branchD_right hr n _ _
  rw [hres]
  clear ih hres
  generalize Sha.sum (branchB (nd t n) (hashF t l (n - 2 ^ l)) (hashF t l (n + 2 ^ l))) = D at *
  generalize hashF t l (n - 2 ^ l) = H1 at *
  generalize hashF t l (n + 2 ^ l) = H2 at *
  generalize nd t n = N at *
  unfold treeV at *
  generalize rowC NodeV.cells t = X at *
  obtain ⟨nk,nm,ny,npa,nu⟩:=N
  unfold NodeV.cells at hat hB
  unfold intsV at hat hB
  have hge : (0 : Int)≤(n : Int):=by omega
  refine jA ?_
  refine jK (hlc _) ?_;rintro s1 rfl
  refine wK fun K hK=>?_
  refine jA ?_
  refine jF ?_
  refine awp_skip ?_
  refine hK _ _ ?_;clear hK K
  refine awp_drw_seq T.mixed [6,9,10] (by kernel_rfl) ?_
  intro K hK
  simp only [↓DM,pval,DX,Nz,↓DN,Qa,Qb,Qc,Qd,Qe,Qf,Qg,Qh,reduceCtorEq,↓reduceIte,Na,Nb,Nc,Nk,Nf,Ng,Nh,Za,Zb,Zc,TT,eye_lt_nat,hi,hge,hat]
  refine acallk (h1 _) ?_
  rintro r s3 ⟨rfl,rfl⟩
  simp only [↓DM,pval,DX,Nz,↓DN,Qa,Qb,Qc,Qd,Qe,Qf,Qg,Qh,reduceCtorEq,↓reduceIte,Na,Nb,Nc,Nk,Nf,Ng,Nh,Za,Zb,Zc,TT]
  refine acallk (h2 _) ?_
  rintro r s4 ⟨rfl,rfl⟩
  simp only [↓DM,pval,DX,Nz,↓DN,Qa,Qb,Qc,Qd,Qe,Qf,Qg,Qh,reduceCtorEq,↓reduceIte,Na,Nb,Nc,Nk,Nf,Ng,Nh,Za,Zb,Zc,TT]
  refine acallk (hB _) ?_
  rintro r s5 ⟨rfl,rfl⟩
  refine jR hK ?_;clear hK K
  exact jJ
end Go.Proofs.YtfjlmkifiihgkaaGreatDoor
namespace Go.Proofs.YtfjlmkifiihgkaaGreatDoor
open Go Go.AM Go.Proofs
variable {Γ : Nat→List AV}
def HashT (t : List NodeV) (x : Int) : List UInt8:=if 0≤x∧x < (t.length : Int)∧rightT t then hashF t (lv x.toNat) x.toNat else []
def RootT (t : List NodeV) : List UInt8:=HashT t ((lvs t : Int) - 1)
theorem hashPub_calls (hG0 : Γ 0 = stC Sha.H0) (hG1 : Γ 1 = Sha.K.map wV) (hG : Γ 3 = dB64.map u8C) (t : List NodeV) (ht : TreeW t) (x : Int) (s : AS) :
  ACalls Tryz.prog Γ 19 [treeV t,.v (.int .i64 x)] s (fun r s'=>r = bytesV (HashT t x) .any∧s' = s):=by
 refine acalls_body Tryz.func19 rfl Tryz.ntmps19 Tryz.results19 (by simp) ?_
 have hr:=fun s=>right20_calls (Γ:=Γ) hG t ht s
 have hh:=fun n hn hs s=>hash20_calls (Γ:=Γ) hG0 hG1 hG t ht (lv n) n rfl hn hs s
 have htl:=ht.1
 have hno : ¬ (0≤x∧x < (t.length : Int)∧rightT t)→HashT t x = []:=fun h=>if_neg h
 have hyes : 0≤x∧x < (t.length : Int)∧rightT t→HashT t x = hashF t (lv x.toNat) x.toNat:=fun h=>if_pos h
 unfold treeV at *
 generalize rowC NodeV.cells t = X at *
 refine jA ?_
 refine wK fun K hK=>?_
 by_cases h0 : x < 0
 ·refine jB (decide_eq_true h0) ?_
  refine jE ?_
  refine jA ?_
  refine jI ?_
  refine ⟨_,_,AV.weak_nil (sz:=1),AS.le.refl _,?_,rfl⟩
  rw [hno (fun k=>by omega)]
  rfl
 ·by_cases h1 : (t.length : Int)≤x
  ·refine jB (Ai (decide_eq_false h0) (decide_eq_true h1)) ?_
   refine jE ?_
   refine jA ?_
   refine jI ?_
   refine ⟨_,_,AV.weak_nil (sz:=1),AS.le.refl _,?_,rfl⟩
   rw [hno (fun k=>by omega)]
   rfl
  ·refine jS (Ai (decide_eq_false h0) (decide_eq_false h1)) fun K hK=>?_
   refine acallk (hr _) ?_
   rintro r s1 ⟨rfl,rfl⟩
   by_cases hrt : rightT t
   ·rw [decide_eq_true hrt]
    refine jR hK ?_;clear hK K
    refine jF ?_
    refine awp_skip ?_
    refine hK _ _ ?_;clear hK K
    obtain ⟨n,rfl⟩:=Int.eq_ofNat_of_zero_le (show 0≤x by omega)
    have hn : n < t.length:=by omega
    obtain ⟨hs1,hs2⟩:=hrt.span hn
    refine jK (hh n hs2 hs1 _) ?_;rintro s2 rfl
    refine jI ?_
    refine ⟨_,_,AV.weak.refl _,AS.le.refl _,?_,rfl⟩
    rw [hyes ⟨by omega,by omega,hrt⟩,Int.toNat_natCast]
   ·rw [decide_eq_false hrt]
    refine jR hK ?_;clear hK K
    refine jE ?_
    refine jA ?_
    refine jI ?_
    refine ⟨_,_,AV.weak_nil (sz:=1),AS.le.refl _,?_,rfl⟩
    rw [hno (fun k=>hrt k.2.2)]
    rfl
theorem root20_calls (hG0 : Γ 0 = stC Sha.H0) (hG1 : Γ 1 = Sha.K.map wV) (hG : Γ 3 = dB64.map u8C) (t : List NodeV) (ht : TreeW t) (s : AS) :
  ACalls Tryz.prog Γ 70 [treeV t] s (fun r s'=>r = bytesV (RootT t) .any∧s' = s):=by
 refine acalls_body Tryz.func70 rfl Tryz.ntmps70 Tryz.results70 (by simp) ?_
 have hl:=fun s=>leaves_calls (Γ:=Γ) t ht.1 s
 have hh:=fun x s=>hashPub_calls (Γ:=Γ) hG0 hG1 hG t ht x s
 have hlv:=lvs_le t
 have hRoot : RootT t = HashT t ((lvs t : Int) - 1):=rfl
 unfold treeV at *
 generalize rowC NodeV.cells t = X at *
 refine jA ?_
 refine jQ fun K hK=>?_
 refine acallk (hl _) ?_
 rintro r s1 ⟨rfl,rfl⟩
 simp only [↓DM,pval,DX,Nz,↓DN,Qa,Qb,Qc,Qd,Qe,Qf,Qg,Qh,reduceCtorEq,↓reduceIte,Na,Nb,Nc,Nk,Nf,Ng,Nh,Za,Zb,Zc,TT,isub_i64 (a:=(lvs t : Int)) (b:=1) (by omega)]
 refine acallk (hh _ _) ?_
 rintro r s2 ⟨rfl,rfl⟩
 refine jR hK ?_;clear hK K
 exact jJ
theorem refRoot20_calls (t : List NodeV) (ht : TreeW t) (hr : rightT t) (s : AS) :
  ACalls Tryz.prog Γ 71 [treeV t] s (fun r s'=>r = .v (.string ⟨(RootT t).toArray⟩)∧s' = s):=by
 refine acalls_body Tryz.func71 rfl Tryz.ntmps71 Tryz.results71 (by simp) ?_
 have hl:=fun s=>refLeaves_calls (Γ:=Γ) t ht.1 s
 obtain ⟨h1,h2⟩:=hr.len
 have h2':=h2.le
 obtain ⟨hs1,hs2⟩:=hr.span (n:=lvs t - 1) (by omega)
 have hh:=fun s=>refHash20_calls (Γ:=Γ) t ht hr (lv (lvs t - 1)) (lvs t - 1) rfl hs2 hs1 s
 have hRoot : RootT t = hashF t (lv (lvs t - 1)) (lvs t - 1):=by
  unfold RootT HashT
  rw [if_pos ⟨by omega,by omega,hr⟩,show ((lvs t : Int) - 1).toNat = lvs t - 1 by omega]
 rw [hRoot]
 clear hRoot
 generalize hashF t (lv (lvs t - 1)) (lvs t - 1) = D at *
 have e1 : isub .i64 (lvs t : Int) 1 = ((lvs t - 1 : Nat) : Int):=by rw [isub_i64 (by omega)]; omega
 unfold treeV at *
 generalize rowC NodeV.cells t = X at *
 refine jA ?_
 refine jQ fun K hK=>?_
 refine acallk (hl _) ?_
 rintro r s1 ⟨rfl,rfl⟩
 simp only [↓DM,pval,DX,Nz,↓DN,Qa,Qb,Qc,Qd,Qe,Qf,Qg,Qh,reduceCtorEq,↓reduceIte,Na,Nb,Nc,Nk,Nf,Ng,Nh,Za,Zb,Zc,TT,e1]
 refine acallk (hh _) ?_
 rintro r s2 ⟨rfl,rfl⟩
 refine jR hK ?_;clear hK K
 exact jJ
end Go.Proofs.YtfjlmkifiihgkaaGreatDoor
namespace Go.Proofs.YtfjlmkifiihgkaaGreatDoor
open Go Go.AM Go.Proofs
variable {Γ : Nat→List AV}
def RES (s0 : AS) (k : Nat) (cs : List AV) (L : List Int) (r : AV) (s' : AS) : Prop:=RBuf 1 s0 s' r (k + L.length) (cs ++ L.map intC)∧s0.le s'
end Go.Proofs.YtfjlmkifiihgkaaGreatDoor
namespace Go.Proofs.YtfjlmkifiihgkaaGreatDoor
open Go Go.AM Go.Proofs
variable {Γ : Nat→List AV}
theorem has_calls (l : List Int) (v : Int) (hl : l.length≤2 ^ 61) (s : AS) : ACalls Tryz.prog Γ 79 [intsV l .any,.v (.int .i64 v)] s (fun r s'=>r = .v (.bool (decide (v ∈ l)))∧s' = s):=by
 refine acalls_body Tryz.func79 rfl Tryz.ntmps79 Tryz.results79 (by simp) ?_
 unfold intsV
 refine jA ?_
 refine wK fun K hK=>?_
 refine jA ?_
 refine awp_block ?_
 refine awp_loop (fun E s2=>∃ i : Nat,i≤l.length∧v ∉ l.take i∧E 5 = .v (.int .i64 i)∧E 0 = .sl 1 l.length (l.map intC) .any∧E 1 = .v (.int .i64 v)∧s2 = s)
  (fun E _=>match E 5 with | .v (.int _ i)=>l.length - i.toNat | _=>0) ?_ ?_
 ·exact ⟨0,Nat.zero_le _,by simp,by simp only [upd,Nc,↓reduceIte]; rfl,by simp only [upd,initE,List.getD_cons_zero,List.getD_cons_succ,Nc,↓reduceIte],by simp only [upd,initE,List.getD_cons_zero,List.getD_cons_succ,Nc,↓reduceIte],rfl⟩
 ·rintro E1 s2 ⟨i,hi,hv,g5,g0,g1,rfl⟩ -
  refine wK fun K2 hK2=>?_
  by_cases hi' : i < l.length
  ·refine jB (Ai @g5 (Ai @g0 (Ai @eye_lt_nat (decide_eq_true hi')))) ?_
   refine jE ?_
   refine awp_skip ?_
   refine hK2 _ _ ?_;clear hK2 K2
   refine wK fun K3 hK3=>?_
   refine awp_block ?_
   have hat:=eat_int hi'
   have hge : (0 : Int)≤(i : Int):=by omega
   have hmem : l[i] ∈ l:=List.getElem_mem hi'
   have htk : l.take (i + 1) = l.take i ++ [l[i]]:=List.take_succ_eq_append_getElem hi'
   generalize l[i] = u at *
   by_cases hq : u = v
   ·refine jB (Ai @g0 (Ai @g1 (Ai @g5 (Ai @eye_lt_nat (Ai @hi' (Ai @hge (Ai @hat (Ai @intC.eq_1 (yesI hq))))))))) ?_
    refine jE ?_
    refine jA ?_
    refine jI ?_
    rw [decide_eq_true (by rw [← hq]; exact hmem)]
    exact ⟨_,_,AV.weak.refl _,AS.le.refl _,rfl,rfl⟩
   ·refine jB (Ai @g0 (Ai @g1 (Ai @g5 (Ai @eye_lt_nat (Ai @hi' (Ai @hge (Ai @hat (Ai @intC.eq_1 (notI hq))))))))) ?_
    refine jF ?_
    refine awp_skip ?_
    simp only [blockQ,thenQ,if_true,if_false]
    refine hK3 _ _ ?_;clear hK3 K3
    refine jD (Ai @g5 (eye_succM i (by omega))) ?_
    refine ⟨⟨i + 1,by omega,?_,by simp only [upd,Nc,↓reduceIte],by simp only [upd,g0,Nc,↓reduceIte],by simp only [upd,g1,Nc,↓reduceIte],rfl⟩,?_⟩
    ·rw [htk,List.mem_append,List.mem_singleton]
     rintro (h | h)
     ·exact hv h
     ·exact hq h.symm
    ·simp only [g5,upd,↓reduceIte]
     omega
  ·refine jB (Ai @g5 (Ai @g0 (Ai @eye_lt_nat (decide_eq_false hi')))) ?_
   refine jF ?_
   refine awp_exit ?_
   simp only [thenQ,blockQ,if_true]
   refine hK _ _ ?_;clear hK hK2 K2 K
   rw [List.take_of_length_le (by omega)] at hv
   refine jA ?_
   refine jI ?_
   rw [decide_eq_false hv]
   exact ⟨_,_,AV.weak.refl _,AS.le.refl _,rfl,rfl⟩
end Go.Proofs.YtfjlmkifiihgkaaGreatDoor
namespace Go.Proofs.YtfjlmkifiihgkaaGreatDoor
open Go Go.AM Go.Proofs
variable {Γ : Nat→List AV}
def NewBuf (s s' : AS) (r : AV) (l : List Int) : Prop:=OBuf 1 s' r l.length (l.map intC)∧(∀ o,onm r = some o→s.objs o = none)∧s.le s'
theorem intsCloneB_nil (s : AS) : ACalls Tryz.prog Γ 210 [nilS] s (fun r s'=>NewBuf s s' r []):=by
 refine acalls_body Tryz.func210 rfl Tryz.ntmps210 Tryz.results210 (by simp) ?_
 unfold nilS
 refine jA ?_
 refine wK fun K hK=>?_
 refine jA ?_
 refine jE ?_
 refine jA ?_
 refine jI ?_
 exact ⟨_,_,AV.weak.refl _,AS.le.refl _,.inl ⟨rfl,rfl,.inl rfl⟩,(fun o h=>by cases h),AS.le.refl _⟩
theorem intsCloneB_no (l : List Int) (s : AS) (hl : l.length≤2 ^ 42) : ACalls Tryz.prog Γ 210 [intsV l .no] s (fun r s'=>NewBuf s s' r l):=by
 refine acalls_body Tryz.func210 rfl Tryz.ntmps210 Tryz.results210 (by simp) ?_
 unfold intsV
 refine jA ?_
 refine wK fun K hK=>?_
 refine jB @and_false ?_
 refine jF ?_
 refine awp_skip ?_
 refine hK _ _ ?_;clear hK K
 by_cases h0 : l.length = 0
 ·have hl0 : l = []:=List.eq_nil_of_length_eq_zero h0
  subst hl0
  refine jA ?_
  refine jI ?_
  exact ⟨_,s,AV.weak.refl _,AS.le.refl s,.inl ⟨rfl,rfl,.inr (.inr rfl)⟩,(fun o h=>by cases h),AS.le.refl _⟩
 ·refine awp_reg_at2 rfl (by decide) ?_
  intro ops
  simp only [↓DM,pval,DX,Nz,↓DN,Qa,Qb,Qc,Qd,Qe,Qf,Qg,Qh,reduceCtorEq,↓reduceIte,Na,Nb,Nc,Nk,Nf,Ng,Nh,Za,Zb,Zc,TT]
  refine ⟨_,fun G a w hr=>append_own_res (n:=0) (m:=l.length) (cs:=[]) (ds:=l.map intC) (e:=3) (z:=[.v (.int .i64 0)]) rfl Tryz.underlying39 (by simp only [↓DN,Qa,Qb,Qc,Qd,Qe,Qf,Qg,Qh,reduceCtorEq,↓reduceIte,Na,Nb,Nc,Nk,Nf,Ng,Nh,Za,Zb,Zc,TT]; try rfl) (by simp only [↓DN,Qa,Qb,Qc,Qd,Qe,Qf,Qg,Qh,reduceCtorEq,↓reduceIte,Na,Nb,Nc,Nk,Nf,Ng,Nh,Za,Zb,Zc,TT]; try rfl) (by rw [T.c3]; decide) (by rw [T.c3]; rfl) (by simp only [↓DN,Qa,Qb,Qc,Qd,Qe,Qf,Qg,Qh,reduceCtorEq,↓reduceIte,Na,Nb,Nc,Nk,Nf,Ng,Nh,Za,Zb,Zc,TT,asrc,aeval,upd,Nc,↓reduceIte]) h0 (by rw [T.b3]; omega) (by omega) (by simp [List.all_eq_true,intC,AV.one]) (by rw [T.c3]; exact .inl ⟨rfl,rfl,.inr (.inr rfl)⟩) hr.eval hr.st,?_⟩
  rw [T.c3]
  rintro r s1 ⟨ob,cap,rest,rfl,hcap,h63,hrl,hob,rfl⟩
  simp only [↓DM,pval,DX,Nz,↓DN,Qa,Qb,Qc,Qd,Qe,Qf,Qg,Qh,reduceCtorEq,↓reduceIte,Na,Nb,Nc,Nk,Nf,Ng,Nh,Za,Zb,Zc,TT]
  refine jI ?_
  have hob : s.objs ob = none:=by
   rcases hob with h | ⟨_,h⟩
   ·exact h
   ·simp [aeval,upd] at h
  rw [Nat.zero_add,Nat.mul_one] at *
  refine ⟨_,_,AV.weak.refl _,AS.le.refl _,.inr ⟨ob,cap,rest,rfl,AS.set_objs_same _ _ _,by simp,by rw [Nat.mul_one]; exact hrl,hcap,h63⟩,fun o h=>?_,AS.le_set (AS.le.refl s) hob _⟩
  cases h
  exact hob
theorem intsCloneB_calls (l : List Int) (s : AS) (hl : l.length≤2 ^ 42) : ACalls Tryz.prog Γ 210 [intsV l .any] s (fun r s'=>NewBuf s s' r l) :=
 ACalls.anyS (post:=[]) (fun e _=>by obtain rfl : l = []:=List.eq_nil_of_length_eq_zero e; exact intsCloneB_nil s) (intsCloneB_no l s hl)
end Go.Proofs.YtfjlmkifiihgkaaGreatDoor
namespace Go.Proofs.YtfjlmkifiihgkaaGreatDoor
open Go Go.AM Go.Proofs
variable {Γ : Nat→List AV}
theorem nodeCloneB_calls (N : NodeV) (hm : N.name.length≤2 ^ 45) (hp : N.parent.length≤2 ^ 45) (hu : N.unm.length≤2 ^ 42) (s : AS) : ACalls Tryz.prog Γ 143 [.agg N.cells] s (fun r s'=>∃ x,r = .agg (cellsX (N,x))∧NewBuf s s' x N.unm):=by
 refine acalls_body Tryz.func143 rfl Tryz.ntmps143 Tryz.results143 (by simp) ?_
 unfold NodeV.cells
 obtain ⟨k,m,y,pa,u⟩:=N
 simp only at hp hu hm
 refine jS @intsV.eq_1 fun K hK=>?_
 intro o1 ho1 o2 ho2
 have h21 : o2≠o1:=by
  rintro rfl
  simp [AS.set] at ho2
 have h12:=h21.symm
 have h20 : s.objs o2 = none:=by simpa [AS.set,upd,h21] using ho2
 refine hK _ _ ?_;clear hK K
 refine awp_mrk_seq T.mixed [(o1,[.v (.int .i64 k),.sl 1 m.length (m.map byteV) .any,.v (.int .u64 y),.sl 1 pa.length (pa.map byteV) .any,.sl 1 u.length (u.map intC) .any])] [2,5,8] [1,4,7] [10,12,14] (by kernel_rfl) (by simp only [Pres_cons,Pres_nil,and_true]; simp [AS.set,upd,h12,h21]) ?_
 intro K hK
 simp only [↓AXr_nil,↓AXr_cons,gval,lval,fzGet_cons,fzGet_nil,Pres_cons,Pres_nil,List.any_cons,List.any_nil,List.contains_cons,List.contains_nil,Nat.reduceBEq,Bool.or_false,Bool.or_true,Bool.or_self,Bool.false_or,↓DN,Qa,Qb,Qc,Qd,Qe,Qf,Qg,Qh,reduceCtorEq,↓reduceIte,Na,Nb,Nc,Nk,Nf,Ng,Nh,Za,Zb,Zc,TT,h21,h12]
 refine acallk (bytesClone_calls m _ (by omega)) ?_
 rintro r s' ⟨rfl,rfl⟩
 simp only [↓AXq_nil,↓AXq_cons,pval,↓AXr_nil,↓AXr_cons,gval,lval,fzGet_cons,fzGet_nil,Pres_cons,Pres_nil,List.any_cons,List.any_nil,DX,Nat.reduceBEq,↓DN,Qa,Qb,Qc,Qd,Qe,Qf,Qg,Qh,reduceCtorEq,↓reduceIte,Na,Nb,Nc,Nk,Nf,Ng,Nh,Za,Zb,Zc,TT,h21,h12]
 refine acallk (bytesClone_calls pa _ hp) ?_
 rintro r s' ⟨rfl,rfl⟩
 simp only [↓AXq_nil,↓AXq_cons,pval,↓AXr_nil,↓AXr_cons,gval,lval,fzGet_cons,fzGet_nil,Pres_cons,Pres_nil,List.any_cons,List.any_nil,DX,Nat.reduceBEq,↓DN,Qa,Qb,Qc,Qd,Qe,Qf,Qg,Qh,reduceCtorEq,↓reduceIte,Na,Nb,Nc,Nk,Nf,Ng,Nh,Za,Zb,Zc,TT,h21,h12]
 refine acallk (intsCloneB_calls u _ hu) ?_
 rintro r s' ⟨hb,hnew,hle⟩
 have q1 : s'.objs o1 = some [.v (.int .i64 k),.sl 1 m.length (m.map byteV) .any,.v (.int .u64 y),.sl 1 pa.length (pa.map byteV) .any,.sl 1 u.length (u.map intC) .any]:=hle.objs _ _ (by simp [AS.set,upd,h12])
 have q2 : s'.objs o2 = some [.v (.int .i64 0),.v (.slice none 0 0),.v (.int .u64 0),.v (.slice none 0 0),.v (.slice none 0 0)]:=hle.objs _ _ (AS.set_objs_same _ _ _)
 have hs : s.le s':=(AS.le_set (AS.le_set (AS.le.refl s) ho1 _) h20 _).trans hle
 have n1 : onm r≠some o1:=fun e=>by have:=hnew o1 e; simp [AS.set,upd,h12] at this
 have n2 : onm r≠some o2:=fun e=>by have:=hnew o2 e; simp [AS.set] at this
 have n0 : ∀ o,onm r = some o→s.objs o = none:=fun o e=>AS.le_none (AS.le_set (AS.le_set (AS.le.refl s) ho1 _) h20 _) (hnew o e)
 have hone : r.one = true:=by
  rcases hb with ⟨_,_,rfl | rfl | rfl⟩ | ⟨_,_,_,rfl,_⟩ <;> rfl
 have hcell : r.cells = [r]:=by
  rcases hb with ⟨_,_,rfl | rfl | rfl⟩ | ⟨_,_,_,rfl,_⟩ <;> rfl
 unfold AV.cells at hcell
 unfold AV.one at hone
 simp only [↓AXq_nil,↓AXq_cons,pval,↓AXr_nil,↓AXr_cons,gval,lval,fzGet_cons,fzGet_nil,Pres_cons,Pres_nil,List.any_cons,List.any_nil,DX,Nat.reduceBEq,↓DN,Qa,Qb,Qc,Qd,Qe,Qf,Qg,Qh,reduceCtorEq,↓reduceIte,Na,Nb,Nc,Nk,Nf,Ng,Nh,Za,Zb,Zc,TT,q1,q2,hcell,h21,h12,intsV,hone]
 refine hK _ _ ?_;clear hK K
 refine jB (Ai @q1 (Ai @q2 (Ai @hcell (Ai @h21 (Ai @h12 (Ai @intsV.eq_1 @hone)))))) ?_
 refine awp_ret ?_
 refine aends_cell (o:=o2) (off:=0) (by simp only [upd,Nc,↓reduceIte]) (AS.set_objs_same _ _ _) (by rw [T.c69]; decide) (by simp only [↓DN,Qa,Qb,Qc,Qd,Qe,Qf,Qg,Qh,reduceCtorEq,↓reduceIte,Na,Nb,Nc,Nk,Nf,Ng,Nh,Za,Zb,Zc,TT]; rfl) ?_
 refine ⟨_,_,AV.weak.refl _,AS.le.refl _,r,rfl,?_,n0,?_⟩
 ·first | exact ((((hb.set_ne n1).set_ne n1).set_ne n1).set_ne n2) | exact ((hb.set_ne n1).set_ne n2)
 ·first | exact AS.le_set (AS.le_set (AS.le_set (AS.le_set hs ho1 _) ho1 _) ho1 _) h20 _ | exact AS.le_set (AS.le_set hs ho1 _) h20 _
end Go.Proofs.YtfjlmkifiihgkaaGreatDoor
namespace Go.Proofs.YtfjlmkifiihgkaaGreatDoor
open Go Go.AM Go.Proofs
variable {Γ : Nat→List AV}
theorem zrow_quin (a b c d e : AV) : zrow 5 [a,b,c,d,e] = [a,b,c,d,e]:=rfl
theorem TreeO.leR {s0 s s' : AS} {X : AV} {TS : List (NodeV × AV)} (h : TreeO s0 s X TS) (k : s.le s') : TreeO s0 s' X TS :=
 ⟨⟨fun p hp=>(h.xs.buf p hp).le k,h.xs.new,h.xs.sep⟩,h.le.trans k,h.row.le k,h.newR,h.sepR⟩
def NodeW (n : NodeV) : Prop:=n.name.length≤2 ^ 45∧n.parent.length≤2 ^ 45∧n.unm.length≤2 ^ 42
theorem clone20_calls (t : List NodeV) (ht : t.length≤2 ^ 30) (hw : ∀ n ∈ t,NodeW n) (s : AS) : ACalls Tryz.prog Γ 69 [treeV t] s (fun r s'=>∃ TS,TS.map (·.1) = t∧TreeO s s' r TS):=by
 refine acalls_body Tryz.func69 rfl Tryz.ntmps69 Tryz.results69 (by simp) ?_
 have hat:=fun i (h : i < t.length)=>node_at (t:=t) h
 have hnW : ∀ i (h : i < t.length),NodeW (nd t i):=fun i h=>by rw [nd_get h]; exact hw _ (List.getElem_mem h)
 have htk : ∀ i (h : i < t.length),t.take (i + 1) = t.take i ++ [nd t i]:=fun i h=>by rw [List.take_succ_eq_append_getElem h,nd_get h]
 unfold treeV at *
 generalize rowC NodeV.cells t = X at *
 refine jA ?_
 refine jA ?_
 refine wK fun K hK=>?_
 refine jA ?_
 refine awp_block ?_
 refine awp_loop (fun E s2=>∃ (i : Nat) (x : AV) (TS : List (NodeV × AV)),i≤t.length∧E 8 = .v (.int .i64 i)∧E 7 = .v (.int .i64 t.length)∧E 6 = .sl 5 t.length X .any∧E 3 = x∧TS.map (·.1) = t.take i∧TreeO s s2 x TS)
  (fun E _=>match E 8 with | .v (.int _ i)=>t.length - i.toNat | _=>0) ?_ ?_
 ·exact ⟨0,_,[],Nat.zero_le _,by simp only [upd,Nc,↓reduceIte]; rfl,by simp only [upd,Nc,↓reduceIte],by simp only [upd,Nc,↓reduceIte],by simp only [upd,Nc,↓reduceIte]; rfl,rfl,TreeO.nil s⟩
 ·rintro E1 s2 ⟨i,x,TS,hi,g8,g7,g6,g3,hT,hx⟩ -
  by_cases hi' : i < t.length
  ·refine jB (Ai @g8 (Ai @g7 (Ai @eye_lt_nat (decide_eq_true hi')))) ?_
   refine wK fun K2 hK2=>?_
   refine jE ?_
   refine awp_skip ?_
   refine hK2 _ _ ?_;clear hK2 K2
   refine wK fun K3 hK3=>?_
   refine awp_block ?_
   have hat':=hat i hi'
   have hN:=hnW i hi'
   have hstep:=htk i hi'
   generalize nd t i = N at *
   have hTl : TS.length = i:=by have:=congrArg List.length hT; simp at this; omega
   have hge : (0 : Int)≤((i : Nat) : Int):=by omega
   obtain ⟨nk,nm,ny,npa,nu⟩:=N
   unfold NodeV.cells at hat'
   simp only at hat'
   refine awp_reg_frz 5 (by decide) ?_
   intro K hK
   simp only [↓DM,pval,DX,Nz,↓DN,Qa,Qb,Qc,Qd,Qe,Qf,Qg,Qh,reduceCtorEq,↓reduceIte,Na,Nb,Nc,Nk,Nf,Ng,Nh,Za,Zb,Zc,TT,g6,g8,eye_lt_nat,hi',hge,hat',intsV]
   intro o1 h1
   refine hK _ _ o1 _ (by simp only [upd,Nc,↓reduceIte]) h1 ?_
   clear hK K h1
   refine awp_region_at4 rfl (by decide) ?_
   intro ops
   simp only [↓DM,pval,DX,Nz,↓DN,Qa,Qb,Qc,Qd,Qe,Qf,Qg,Qh,reduceCtorEq,↓reduceIte,Na,Nb,Nc,Nk,Nf,Ng,Nh,Za,Zb,Zc,TT,g3]
   refine acallk (nodeCloneB_calls ⟨nk,nm,ny,npa,nu⟩ hN.1 hN.2.1 hN.2.2 _) ?_
   rintro r s3 ⟨xn,rfl,hb,hnew,hle3⟩
   unfold cellsX at *
   simp only [↓DM,pval,DX,Nz,↓DN,Qa,Qb,Qc,Qd,Qe,Qf,Qg,Qh,reduceCtorEq,↓reduceIte,Na,Nb,Nc,Nk,Nf,Ng,Nh,Za,Zb,Zc,TT,g3,zrow_quin]
   have hs0 : s2.le s3:=hle3
   have hrow : OBuf 5 s3 x i (rowC cellsX TS):=by
    have:=hx.row.le hle3
    rwa [hTl] at this
   have hone : xn.one = true:=by
    rcases hb with ⟨_,_,rfl | rfl | rfl⟩ | ⟨_,_,_,rfl,_⟩ <;> rfl
   refine ⟨_,fun G a w hr=>append_own_res (n:=i) (m:=1) (cs:=rowC cellsX TS) (ds:=cellsX (⟨nk,nm,ny,npa,nu⟩,xn)) (e:=69) rfl Tryz.underlying26 (by simp only [↓DN,Qa,Qb,Qc,Qd,Qe,Qf,Qg,Qh,reduceCtorEq,↓reduceIte,Na,Nb,Nc,Nk,Nf,Ng,Nh,Za,Zb,Zc,TT]; try rfl) T.z69 (by rw [T.c69]; decide) (by rw [T.c69]; rfl) (by rw [T.c69]; simp only [↓DN,Qa,Qb,Qc,Qd,Qe,Qf,Qg,Qh,reduceCtorEq,↓reduceIte,Na,Nb,Nc,Nk,Nf,Ng,Nh,Za,Zb,Zc,TT,asrc,aeval,upd,Nc,↓reduceIte]; rfl) (by decide) (by rw [T.b69]; omega) (by omega) (by simp only [cellsX,List.all_cons,List.all_nil,hone]; rfl) (by rw [T.c69]; exact hrow) hr.eval hr.st,?_⟩
   rw [T.c69]
   rintro r s4 ⟨ob,cap,rest,rfl,hcap,h63,hrl,hob,rfl⟩
   have hob' : s3.objs ob = none∨∃ cap0,x = .osl ob 0 5 TS.length cap0:=by
    rw [hTl]; exact hob
   have hpush:=(TreeO.leR hx hle3).push (p:=(⟨nk,nm,ny,npa,nu⟩,xn)) (ob:=ob) (cap:=cap) (rest:=rest) hb
    (fun o ho=>⟨AS.le_none hx.le (hnew o ho),(fun q hq e=>by obtain ⟨ds,hd⟩:=(hx.xs.buf q hq).some e; rw [hnew o ho] at hd; cases hd),(fun e=>by obtain ⟨ds,hd⟩:=hx.row.some e; rw [hnew o ho] at hd; cases hd)⟩)
    hob' (by rw [hTl]; exact hcap) h63 (by rw [hTl]; exact hrl)
   rw [hTl,List.append_assoc] at hpush
   refine jV @g3 hK3 ?_;clear hK3 K3
   refine jD (Ai @g8 (eye_succM i (by omega))) ?_
   refine ⟨⟨i + 1,.osl ob 0 5 (i + 1) cap,TS ++ [(⟨nk,nm,ny,npa,nu⟩,xn)],by omega,by simp only [upd,Nc,↓reduceIte],by simp only [upd,g7,Nc,↓reduceIte],by simp only [upd,g6,Nc,↓reduceIte],by simp only [upd,Nc,↓reduceIte],by rw [List.map_append,hT,hstep]; rfl,hpush⟩,?_⟩
   simp only [g8,upd,↓reduceIte]
   omega
  ·refine jB (Ai @g8 (Ai @g7 (Ai @eye_lt_nat (decide_eq_false hi')))) ?_
   refine wK fun K2 hK2=>?_
   refine jF ?_
   refine awp_exit ?_
   simp only [thenQ,blockQ,if_true]
   refine hK _ _ ?_;clear hK hK2 K2 K
   obtain rfl : i = t.length:=by omega
   refine jB @g3 ?_
   refine jI ?_
   exact ⟨_,_,AV.weak.refl _,AS.le.refl _,TS,by rw [hT,List.take_length],hx⟩
end Go.Proofs.YtfjlmkifiihgkaaGreatDoor
namespace Go.Proofs.YtfjlmkifiihgkaaGreatDoor
open Go Go.AM Go.Proofs
variable {Γ : Nat→List AV}
def renI : Go.Shelf.Ren:=⟨fun | 21=>132 | 27=>207 | 28=>208 | 35=>248 | 39=>260 | n=>n,fun | 22=>39 | n=>n,fun n=>n⟩
theorem laysI : Lays2.n21 Tryz.prog renI where
  mixed:=by kernel_rfl
  f21:=(Tryz.func132).trans (congrArg some (by kernel_rfl))
  f27:=(Tryz.func207).trans (congrArg some (by kernel_rfl))
  f28:=(Tryz.func208).trans (congrArg some (by kernel_rfl))
  f35:=(Tryz.func248).trans (congrArg some (by kernel_rfl))
  f39:=(Tryz.func260).trans (congrArg some (by kernel_rfl))
  t0:=Tryz.underlying0
  a0:=Tryz.isAgg0
  z0:=Tryz.sizeOf0
  v0:=Tryz.zeroValue0
  t3:=Tryz.underlying3
  a3:=Tryz.isAgg3
  z3:=Tryz.sizeOf3
  v3:=Tryz.zeroValue3
  t4:=Tryz.underlying4
  a4:=Tryz.isAgg4
  z4:=Tryz.sizeOf4
  v4:=Tryz.zeroValue4
  t22:=Tryz.underlying39
  a22:=Tryz.isAgg39
  z22:=Tryz.sizeOf39
  v22:=Tryz.zeroValue39
  i3:=by kernel_rfl
def renS : Go.Shelf.Ren:=⟨fun | 25=>131 | 31=>205 | 32=>206 | 37=>247 | n=>n,fun | 22=>39 | 40=>219 | n=>n,fun n=>n⟩
theorem laysS : Lays2.n25 Tryz.prog renS where
  mixed:=by kernel_rfl
  f25:=(Tryz.func131).trans (congrArg some (by kernel_rfl))
  f31:=(Tryz.func205).trans (congrArg some (by kernel_rfl))
  f32:=(Tryz.func206).trans (congrArg some (by kernel_rfl))
  f37:=(Tryz.func247).trans (congrArg some (by kernel_rfl))
  t0:=Tryz.underlying0
  a0:=Tryz.isAgg0
  z0:=Tryz.sizeOf0
  v0:=Tryz.zeroValue0
  t3:=Tryz.underlying3
  a3:=Tryz.isAgg3
  z3:=Tryz.sizeOf3
  v3:=Tryz.zeroValue3
  t4:=Tryz.underlying4
  a4:=Tryz.isAgg4
  z4:=Tryz.sizeOf4
  v4:=Tryz.zeroValue4
  t22:=Tryz.underlying39
  a22:=Tryz.isAgg39
  z22:=Tryz.sizeOf39
  v22:=Tryz.zeroValue39
  t40:=Tryz.underlying219
  a40:=Tryz.isAgg219
  z40:=Tryz.sizeOf219
  v40:=Tryz.zeroValue219
theorem search20_calls {x : AV} {l : List Int} (v : Int) (hl : l.length < 2 ^ 62) (hs : l.Pairwise (·≤·)) {s : AS} (hb : OBuf 1 s x l.length (l.map intC)) :
    ACalls Tryz.prog Γ 131 [x,.v (.int .i64 v)] s (fun r s'=>r = .tup [.v (.int .i64 ((l.countP (· < v) : Nat) : Int)),.v (.bool (l.contains v))]∧s' = s) :=
  search_calls laysS v hl hs hb
end Go.Proofs.YtfjlmkifiihgkaaGreatDoor
namespace Go.Proofs.YtfjlmkifiihgkaaGreatDoor
open Go Go.AM Go.Proofs
variable {Γ : Nat→List AV}
theorem memberO_calls {sa s : AS} {X : AV} {TS : List (NodeV × AV)} (h : TreeO sa s X TS) (ht : TS.length≤2 ^ 61) (i : Int) : ACalls Tryz.prog Γ 84 [X,.v (.int .i64 i)] s (fun r s'=>r = .v (.bool (decide (memI (TS.map (·.1)) i)))∧s' = s) :=
  ACalls.view ((member_calls (Γ:=Γ0) (TS.map (·.1)) (by simpa using ht) i s0).mono fun r s' h=>h.1) (.cons h.view (.cons .val .nil))
theorem leavesO_calls {sa s : AS} {X : AV} {TS : List (NodeV × AV)} (h : TreeO sa s X TS) (ht : TS.length≤2 ^ 61) : ACalls Tryz.prog Γ 82 [X] s (fun r s'=>r = .v (.int .i64 (lvs (TS.map (·.1))))∧s' = s) :=
  ACalls.view ((leaves_calls (Γ:=Γ0) (TS.map (·.1)) (by simpa using ht) s0).mono fun r s' h=>h.1) (.cons h.view .nil)
theorem membersO_calls {sa s : AS} {X : AV} {TS : List (NodeV × AV)} (h : TreeO sa s X TS) (ht : TS.length≤2 ^ 61) (a k : Nat) (hak : a + k < 2 ^ 61) : ACalls Tryz.prog Γ 86 [X,.v (.int .i64 a),.v (.int .i64 (((a + k : Nat) : Int) - 1))] s (fun r s'=>r = .v (.int .i64 (cntN (memI (TS.map (·.1))) a k))∧s' = s) :=
  ACalls.view ((members_calls (Γ:=Γ0) (TS.map (·.1)) (by simpa using ht) a k hak s0).mono fun r s' h=>h.1) (.cons h.view (.cons .val (.cons .val .nil)))
end Go.Proofs.YtfjlmkifiihgkaaGreatDoor
namespace Go.Proofs.YtfjlmkifiihgkaaGreatDoor
open Go Go.AM Go.Proofs
variable {Γ : Nat→List AV}
theorem leafOf20_calls (name : List UInt8) (key : Nat) (hn : name.length≤2 ^ 45) (s : AS) : ACalls Tryz.prog Γ 56 [bytesV name .any,.v (.int .u64 key)] s (fun r s'=>r = .agg (leafN name key).cells∧s' = s):=by
 refine acalls_body Tryz.func56 rfl Tryz.ntmps56 Tryz.results56 (by simp) ?_
 have hc:=fun s=>bytesClone_calls (Γ:=Γ) name s hn
 unfold bytesV at *
 refine wS fun K hK=>?_
 simp only [↓DN,Qa,Qb,Qc,Qd,Qe,Qf,Qg,Qh,reduceCtorEq,↓reduceIte,Na,Nb,Nc,Nk,Nf,Ng,Nh,Za,Zb,Zc,TT]
 intro o ho
 refine hK _ _ ?_;clear hK K
 refine wS fun K hK=>?_
 simp only [↓DN,Qa,Qb,Qc,Qd,Qe,Qf,Qg,Qh,reduceCtorEq,↓reduceIte,Na,Nb,Nc,Nk,Nf,Ng,Nh,Za,Zb,Zc,TT]
 refine acallk (hc _) ?_
 rintro r s1 ⟨rfl,rfl⟩
 simp only [↓DM,pval,DX,Nz,↓DN,Qa,Qb,Qc,Qd,Qe,Qf,Qg,Qh,reduceCtorEq,↓reduceIte,Na,Nb,Nc,Nk,Nf,Ng,Nh,Za,Zb,Zc,TT]
 refine hK _ _ ?_;clear hK K
 refine awp_ret ?_
 refine aends_cell (o:=o) (off:=0) (by simp only [upd,Nc,↓reduceIte]) (AS.set_objs_same _ _ _) (by rw [T.c69]; decide) (by simp only [↓DN,Qa,Qb,Qc,Qd,Qe,Qf,Qg,Qh,reduceCtorEq,↓reduceIte,Na,Nb,Nc,Nk,Nf,Ng,Nh,Za,Zb,Zc,TT]; rfl) ?_
 exact ⟨_,s,AV.weak_agg (.cons (AV.weak.refl _) (.cons (AV.weak.refl _) (.cons (AV.weak.refl _) (.cons AV.weak_nil (.cons AV.weak_nil .nil))))),AS.le_set (AS.le.refl s) ho _,rfl,rfl⟩
theorem new20_calls (name : List UInt8) (key : Nat) (hn : name.length≤2 ^ 45) (s : AS) : ACalls Tryz.prog Γ 11 [bytesV name .any,.v (.int .u64 key)] s
  (fun r s'=>r = (if (leafN name key).right then .tup [treeV [leafN name key],.v (.int .i64 0)] else .tup [nilS,.v (.int .i64 2)])∧s' = s):=by
 by_cases h : (leafN name key).right
 ·rw [if_pos h]
  refine acalls_body Tryz.func11 rfl Tryz.ntmps11 Tryz.results11 (by simp) ?_
  have hc:=fun s=>leafOf20_calls (Γ:=Γ) name key hn s
  have hr:=fun s=>nodeRight_calls (Γ:=Γ) (leafN name key) (by simp [leafN]) s
  have hcells : (leafN name key).cells = [.v (.int .i64 1),bytesV name .any,.v (.int .u64 key),bytesV [] .any,intsV [] .any]:=rfl
  have htree : treeV [leafN name key] = .sl 5 1 [.v (.int .i64 1),bytesV name .any,.v (.int .u64 key),bytesV [] .any,intsV [] .any] .any:=rfl
  rw [htree]
  rw [hcells] at hc hr
  generalize leafN name key = N at *
  unfold bytesV intsV at *
  refine jA ?_
  refine awp_reg_frz 6 (by decide) ?_
  intro K hK
  simp only [↓DM,pval,DX,Nz,↓DN,Qa,Qb,Qc,Qd,Qe,Qf,Qg,Qh,reduceCtorEq,↓reduceIte,Na,Nb,Nc,Nk,Nf,Ng,Nh,Za,Zb,Zc,TT]
  refine acallk (hc _) ?_
  rintro r s1 ⟨rfl,rfl⟩
  simp only [↓DM,pval,DX,Nz,↓DN,Qa,Qb,Qc,Qd,Qe,Qf,Qg,Qh,reduceCtorEq,↓reduceIte,Na,Nb,Nc,Nk,Nf,Ng,Nh,Za,Zb,Zc,TT]
  intro o ho
  refine hK _ _ o _ (by simp only [upd,Nc,↓reduceIte]) ho ?_
  clear hK K ho
  refine wK fun K hK=>?_
  refine jQ fun K hK=>?_
  refine acallk (hr _) ?_
  rintro r s2 ⟨rfl,rfl⟩
  rw [decide_eq_true h]
  refine jR hK ?_;clear hK K
  refine jF ?_
  refine awp_skip ?_
  refine hK _ _ ?_;clear hK K
  refine jB @zrow_quin ?_
  refine jI ?_
  exact ⟨_,_,AV.weak_tup2 AV.weak_any (AV.weak.refl _),AS.le.refl _,rfl,rfl⟩
 ·rw [if_neg h]
  refine acalls_body Tryz.func11 rfl Tryz.ntmps11 Tryz.results11 (by simp) ?_
  have hc:=fun s=>leafOf20_calls (Γ:=Γ) name key hn s
  have hr:=fun s=>nodeRight_calls (Γ:=Γ) (leafN name key) (by simp [leafN]) s
  have hcells : (leafN name key).cells = [.v (.int .i64 1),bytesV name .any,.v (.int .u64 key),bytesV [] .any,intsV [] .any]:=rfl
  have htree : treeV [leafN name key] = .sl 5 1 [.v (.int .i64 1),bytesV name .any,.v (.int .u64 key),bytesV [] .any,intsV [] .any] .any:=rfl
  clear htree
  rw [hcells] at hc hr
  generalize leafN name key = N at *
  unfold bytesV intsV at *
  refine jA ?_
  refine awp_reg_frz 6 (by decide) ?_
  intro K hK
  simp only [↓DM,pval,DX,Nz,↓DN,Qa,Qb,Qc,Qd,Qe,Qf,Qg,Qh,reduceCtorEq,↓reduceIte,Na,Nb,Nc,Nk,Nf,Ng,Nh,Za,Zb,Zc,TT]
  refine acallk (hc _) ?_
  rintro r s1 ⟨rfl,rfl⟩
  simp only [↓DM,pval,DX,Nz,↓DN,Qa,Qb,Qc,Qd,Qe,Qf,Qg,Qh,reduceCtorEq,↓reduceIte,Na,Nb,Nc,Nk,Nf,Ng,Nh,Za,Zb,Zc,TT]
  intro o ho
  refine hK _ _ o _ (by simp only [upd,Nc,↓reduceIte]) ho ?_
  clear hK K ho
  refine wK fun K hK=>?_
  refine jQ fun K hK=>?_
  refine acallk (hr _) ?_
  rintro r s2 ⟨rfl,rfl⟩
  rw [decide_eq_false h]
  refine jR hK ?_;clear hK K
  refine jE ?_
  refine jA ?_
  exact jJ
end Go.Proofs.YtfjlmkifiihgkaaGreatDoor
namespace Go.AM
open Go
def goodL (L : Nat) (t : List NodeV) : Prop:=Fit L∧t.length = 2 * L - 1 ∧
    (∀ i,i < 2 * L - 1→(nd t i).right∧((nd t i).kind = 0∨((nd t i).kind = 1↔i % 2 = 0))∧∀ u ∈ (nd t i).unm,(lo i : Int)≤u∧u≤(hi i : Int)∧0≤u∧u < (L : Int)∧(nd t (2 * u.toNat)).kind = 1) ∧
    (∀ a b,a < b→b < L→(nd t (2 * a)).kind = 1→(nd t (2 * b)).kind = 1→(nd t (2 * b)).name≠(nd t (2 * a)).name)
theorem rightT.good {t : List NodeV} (h : rightT t) : goodL (lvs t) t∧(lvs t = 1∨∃ j,lvs t / 2≤j∧j < lvs t∧(Go.AM.nd t (2 * j)).kind = 1):=by
  obtain ⟨h1,h2⟩:=h.len
  obtain ⟨k1,k2,k3⟩:=(rightT_iff h2 h1).1 h
  exact ⟨⟨h2,h1,k1,k2⟩,k3⟩
theorem goodL.right {t : List NodeV} {L : Nat} (h : goodL L t) (k : L = 1∨∃ j,L / 2≤j∧j < L∧(nd t (2 * j)).kind = 1) : rightT t :=
  (rightT_iff h.1 h.2.1).2 ⟨h.2.2.1,h.2.2.2,k⟩
theorem goodL.lvs {t : List NodeV} {L : Nat} (h : goodL L t) : lvs t = L:=lvs_of h.1 h.2.1
theorem unm_branch {N : NodeV} (h : N.right) {u : Int} (hu : u ∈ N.unm) : N.kind = 2:=by
  rcases node_kind h with hk | hk | hk
  · rw [(right_zero hk).1 h] at hu; cases hu
  · have:=((right_one hk).1 h).2.2.2
    rw [List.eq_nil_of_length_eq_zero this] at hu; cases hu
  · exact hk
theorem moreT_shape {t : List NodeV} {L : Nat} (hL : Fit L) (hlen : t.length = 2 * L - 1) {v : Nat} (hv : v≤L) (h32 : v≠32) :
    ∃ L',L' = (if v = L then 2 * L else L)∧Fit L'∧(moreT t v).length = 2 * L' - 1∧v < L'∧lvs (moreT t v) = L'∧L≤L':=by
  have hl:=lvs_of hL hlen
  have hb:=hL.le
  refine ⟨_,rfl,?_⟩
  have key : Fit (if v = L then 2 * L else L)∧(moreT t v).length = 2 * (if v = L then 2 * L else L) - 1:=by
    unfold moreT
    rw [hl]
    split
    · rename_i e
      refine ⟨?_,by simp; omega⟩
      rw [e] at h32
      unfold Fit at hL ⊢
      omega
    · exact ⟨hL,hlen⟩
  refine ⟨key.1,key.2,?_,lvs_of key.1 key.2,?_⟩
  · split <;> omega
  · split <;> omega
theorem freeT_le {t : List NodeV} : freeT t≤lvs t:=(freeT_spec t).1
theorem free_kind {t : List NodeV} {L : Nat} (hL : Fit L) (hlen : t.length = 2 * L - 1) : (nd t (2 * freeT t)).kind≠1:=by
  have hl:=lvs_of hL hlen
  obtain ⟨h1,h2,_⟩:=freeT_spec t
  rw [hl] at h1
  intro hk
  by_cases e : freeT t < L
  · exact h2 ((memN_iff hl _).2 ⟨e,hk⟩)
  · rw [nd_out (by omega)] at hk
    cases hk
theorem named_none {t : List NodeV} {name : List UInt8} (h : ¬ 0≤namedI t name 0) {L : Nat} (hL : Fit L) (hlen : t.length = 2 * L - 1) {j : Nat} (hj : j < L) (hk : (nd t (2 * j)).kind = 1) : (nd t (2 * j)).name≠name:=by
  intro e
  have hl:=lvs_of hL hlen
  have hb:=hL.le
  have h1:=firstN_ge (fun j=>decide (memI t j∧(nd t (2 * j)).name = name)) (hlf t - 0) 0
  have h2 : decide (0≤namedI t name 0) = true:=h1.2 ⟨j,Nat.zero_le _,by unfold hlf; omega,decide_eq_true ⟨(memN_iff hl _).2 ⟨hj,hk⟩,e⟩⟩
  exact h (of_decide_eq_true h2)
theorem addAt_nd {t : List NodeV} {L : Nat} (hL : Fit L) (hlen : t.length = 2 * L - 1) {v : Nat} (hv : v≤L) (h32 : v≠32) (n : NodeV) (i : Nat) :
    nd (addAt t v n) i = if i = 2 * v then n else if i ∈ pathL v (lvs (moreT t v))∧(nd t i).kind = 2 then insN (nd t i) v else nd t i:=by
  obtain ⟨L',_,q2,q3,q4,q5,_⟩:=moreT_shape hL hlen hv h32
  unfold addAt
  rw [q5]
  have hp:=fun x hx=>path_mem q2 q4 x hx
  have hx : nd ((moreT t v).set (2 * v) n) i = if i = 2 * v then n else nd t i:=by
    rw [nd_set,nd_more]
    by_cases e : i = 2 * v
    · rw [if_pos ⟨e.symm,by omega⟩,if_pos e]
    · rw [if_neg (fun q=>e q.1.symm),if_neg e]
  rw [putsU_nd v _ _ (path_nodup q2 q4) (fun u hu=>by rw [List.length_set,q3]; exact (hp u hu).1),hx]
  by_cases e : i = 2 * v
  · rw [if_pos e,if_pos e,if_neg]
    intro q
    have:=(hp _ q.1).2.1
    omega
  · rw [if_neg e,if_neg e]
theorem addAt_len {t : List NodeV} (v : Nat) (n : NodeV) : (addAt t v n).length = (moreT t v).length:=by
  unfold addAt
  rw [putsU_len,List.length_set]
theorem addAt_right {t : List NodeV} (h : rightT t) {n : NodeV} (hn : n.right) (hk : n.kind = 1) (hname : ¬ 0≤namedI t n.name 0) (h32 : freeT t≠32) : rightT (addAt t (freeT t) n):=by
  obtain ⟨⟨hL,hlen,h1,h2⟩,h3⟩:=h.good
  have hfr:=freeT_le (t:=t)
  have hfk:=free_kind hL hlen
  have hnn:=fun {j : Nat}=>named_none hname hL hlen (j:=j)
  generalize freeT t = v at *
  generalize lvs t = L at *
  obtain ⟨L',q1,q2,q3,q4,q5,q6⟩:=moreT_shape hL hlen hfr h32
  have hnd:=addAt_nd hL hlen hfr h32 n
  rw [q5] at hnd
  have hlen':=addAt_len (t:=t) v n
  rw [q3] at hlen'
  generalize addAt t v n = T at *
  have hp:=fun u=>path_iff q2 q4 u
  have heven : ∀ j,j≠v→nd T (2 * j) = nd t (2 * j):=by
    intro j hj
    rw [hnd,if_neg (by omega),if_neg]
    intro q
    have:=((hp _).1 q.1).2.1
    omega
  have hvn : nd T (2 * v) = n:=by rw [hnd,if_pos rfl]
  have hkept : ∀ j,(nd t (2 * j)).kind = 1→(nd T (2 * j)).kind = 1:=by
    intro j hj
    rw [heven j (fun e=>hfk (by rw [← e]; exact hj))]
    exact hj
  have hold : ∀ i,(nd t i).kind≠0→i < 2 * L - 1:=by
    intro i hi
    by_cases e : i < 2 * L - 1
    · exact e
    · rw [nd_out (by omega)] at hi
      exact absurd rfl hi
  have hunm : ∀ i,∀ u ∈ (nd t i).unm,(lo i : Int)≤u∧u≤(hi i : Int)∧0≤u∧u < (L' : Int)∧(nd T (2 * u.toNat)).kind = 1:=by
    intro i u hu
    by_cases e : i < 2 * L - 1
    · obtain ⟨a1,a2,a3,a4,a5⟩:=(h1 i e).2.2 u hu
      exact ⟨a1,a2,a3,by omega,hkept _ a5⟩
    · rw [nd_out (by omega)] at hu
      cases hu
  have hright : ∀ i,(nd t i).right∧((nd t i).kind = 0∨((nd t i).kind = 1↔i % 2 = 0)):=by
    intro i
    by_cases e : i < 2 * L - 1
    · exact ⟨(h1 i e).1,(h1 i e).2.1⟩
    · rw [nd_out (by omega)]
      exact ⟨nought_right,.inl rfl⟩
  refine (rightT_iff q2 hlen').2 ⟨fun i hi'=>?_,fun a b hab hbL ha hb=>?_,?_⟩
  · rw [hnd i]
    by_cases e : i = 2 * v
    · rw [if_pos e]
      refine ⟨hn,.inr ⟨fun _=>by omega,fun _=>hk⟩,fun u hu=>?_⟩
      have:=unm_branch hn hu
      omega
    · rw [if_neg e]
      by_cases e2 : i ∈ pathL v L'∧(nd t i).kind = 2
      · rw [if_pos e2]
        obtain ⟨r1,r2⟩:=hright i
        have hpi:=(hp i).1 e2.1
        have h2':=(right_two e2.2).1 r1
        have hvu : (v : Int) ∉ (nd t i).unm:=by
          intro hm
          have:=((h1 i (hold i (by omega))).2.2 _ hm).2.2.2.2
          rw [Int.toNat_natCast] at this
          exact hfk this
        refine ⟨(right_two (show (insN (nd t i) v).kind = 2 from e2.2)).2 ⟨h2'.1,h2'.2.1,insU_rising h2'.2.2 hvu ?_⟩,r2,fun u hu=>?_⟩
        · have:=q2.le; omega
        · rcases (mem_insU _ _ _).1 hu with rfl | hu
          · refine ⟨by omega,by omega,by omega,by omega,?_⟩
            rw [Int.toNat_natCast,hvn]
            exact hk
          · exact hunm i u hu
      · rw [if_neg e2]
        exact ⟨(hright i).1,(hright i).2,hunm i⟩
  · by_cases ea : a = v
    · rw [ea,hvn]
      rw [heven b (by omega)] at hb ⊢
      exact hnn (by have:=hold _ (show (nd t (2 * b)).kind≠0 by omega); omega) hb
    · rw [heven a ea] at ha ⊢
      by_cases eb : b = v
      · rw [eb,hvn]
        intro e
        exact hnn (j:=a) (by have:=hold _ (show (nd t (2 * a)).kind≠0 by omega); omega) ha e.symm
      · rw [heven b eb] at hb ⊢
        exact h2 a b hab (by have:=hold _ (show (nd t (2 * b)).kind≠0 by omega); omega) ha hb
  · by_cases e : v = L
    · right
      rw [if_pos e] at q1
      exact ⟨v,by omega,q4,by rw [hvn]; exact hk⟩
    · rw [if_neg e] at q1
      subst q1
      rcases h3 with h3 | ⟨j,a1,a2,a3⟩
      · exact .inl h3
      · exact .inr ⟨j,a1,a2,hkept j a3⟩
def blankL (l : List Nat) (t : List NodeV) : List NodeV:=l.foldl (fun t u=>t.set u NodeV.nought) t
def blankT (t : List NodeV) (leaf : Nat) : List NodeV:=blankL (pathL leaf (lvs t)) t
theorem blankL_len : ∀ (l : List Nat) (t : List NodeV),(blankL l t).length = t.length
  | [],_=>rfl
  | x :: l,t=>by
    have:=blankL_len l (t.set x NodeV.nought)
    rw [List.length_set] at this
    exact this
theorem blankL_nd : ∀ (l : List Nat) (t : List NodeV) (j : Nat),nd (blankL l t) j = if j ∈ l then NodeV.nought else nd t j
  | [],t,j=>by simp [blankL]
  | x :: l,t,j=>by
    have ih:=blankL_nd l (t.set x NodeV.nought) j
    have e : blankL (x :: l) t = blankL l (t.set x NodeV.nought):=rfl
    rw [e,ih]
    by_cases h : j ∈ l
    · rw [if_pos h,if_pos (List.mem_cons_of_mem _ h)]
    · rw [if_neg h,nd_set]
      by_cases h2 : x = j
      · rw [if_pos (show j ∈ x :: l by rw [h2]; exact List.mem_cons_self)]
        by_cases h3 : x < t.length
        · rw [if_pos ⟨h2,h3⟩]
        · rw [if_neg (fun q=>h3 q.2),nd_out (by omega)]
      · rw [if_neg (fun q=>h2 q.1),if_neg]
        rw [List.mem_cons]
        rintro (q | q)
        · exact h2 q.symm
        · exact h q
def putT (t : List NodeV) (leaf : Nat) (n : NodeV) : List NodeV:=(blankT t leaf).set (2 * leaf) n
theorem putT_len (t : List NodeV) (leaf : Nat) (n : NodeV) : (putT t leaf n).length = t.length:=by
  unfold putT blankT
  rw [List.length_set,blankL_len]
theorem putT_nd {t : List NodeV} {L : Nat} (hL : Fit L) (hlen : t.length = 2 * L - 1) {leaf : Nat} (hl : leaf < L) (n : NodeV) (i : Nat) :
    nd (putT t leaf n) i = if i = 2 * leaf then n else if i ∈ pathL leaf L then NodeV.nought else nd t i:=by
  unfold putT blankT
  rw [lvs_of hL hlen,nd_set,blankL_nd,blankL_len]
  by_cases e : i = 2 * leaf
  · rw [if_pos ⟨e.symm,by omega⟩,if_pos e]
  · rw [if_neg (fun q=>e q.1.symm),if_neg e]
theorem putT_good {t : List NodeV} {L : Nat} (h : goodL L t) {leaf : Nat} (hl : leaf < L) {n : NodeV} (hn : n.right) (hk : n.kind = 0∨(n.kind = 1∧(nd t (2 * leaf)).kind = 1∧n.name = (nd t (2 * leaf)).name)) : goodL L (putT t leaf n):=by
  obtain ⟨hL,hlen,h1,h2⟩:=h
  have hnd:=putT_nd hL hlen hl n
  have hlen':=putT_len t leaf n
  rw [hlen] at hlen'
  generalize putT t leaf n = T at *
  have hp:=fun u=>path_iff hL hl u
  have heven : ∀ j,j≠leaf→nd T (2 * j) = nd t (2 * j):=by
    intro j hj
    rw [hnd,if_neg (by omega),if_neg]
    intro q
    have:=((hp _).1 q).2.1
    omega
  have hvn : nd T (2 * leaf) = n:=by rw [hnd,if_pos rfl]
  have hkind : ∀ a,(nd T (2 * a)).kind = 1→(nd t (2 * a)).kind = 1∧(nd T (2 * a)).name = (nd t (2 * a)).name:=by
    intro a ha
    by_cases e : a = leaf
    · rw [e,hvn] at ha ⊢
      rcases hk with hk | hk
      · omega
      · exact ⟨hk.2.1,hk.2.2⟩
    · rw [heven a e] at ha ⊢
      exact ⟨ha,rfl⟩
  refine ⟨hL,hlen',fun i hi'=>?_,fun a b hab hbL ha hb=>?_⟩
  · rw [hnd i]
    by_cases e : i = 2 * leaf
    · rw [if_pos e]
      refine ⟨hn,?_,fun u hu=>?_⟩
      · rcases hk with hk | hk
        · exact .inl hk
        · exact .inr ⟨fun _=>by omega,fun _=>hk.1⟩
      · have:=unm_branch hn hu
        omega
    · rw [if_neg e]
      by_cases e2 : i ∈ pathL leaf L
      · rw [if_pos e2]
        exact ⟨nought_right,.inl rfl,fun u hu=>by cases hu⟩
      · rw [if_neg e2]
        obtain ⟨a1,a2,a3⟩:=h1 i hi'
        refine ⟨a1,a2,fun u hu=>?_⟩
        obtain ⟨b1,b2,b3,b4,b5⟩:=a3 u hu
        refine ⟨b1,b2,b3,b4,?_⟩
        rw [heven _ (fun q=>e2 ((hp i).2 ⟨hi',?_,by omega,by omega⟩))]
        · exact b5
        · have hk2:=unm_branch a1 hu
          rcases a2 with a2 | a2
          · omega
          · have : ¬ i % 2 = 0:=fun q=>by have:=a2.2 q; omega
            omega
  · obtain ⟨c1,c2⟩:=hkind a ha
    obtain ⟨d1,d2⟩:=hkind b hb
    rw [c2,d2]
    exact h2 a b hab hbL c1 d1
def keyR (key : Nat) : Prop:=2≤(key : Int)∧(key : Int)≤2305843009213693949
instance (key : Nat) : Decidable (keyR key):=by unfold keyR; infer_instance
def updT (t : List NodeV) (leaf key : Nat) : List NodeV:=putT t leaf (leafN (nd t (2 * leaf)).name key)
def updR (t : List NodeV) (leaf : Int) (key : Nat) : List NodeV × Int :=
  if ¬ rightT t then ([],40) else if ¬ memI t leaf then ([],43) else if ¬ keyR key then ([],2) else (updT t leaf.toNat key,0)
theorem updT_right {t : List NodeV} (h : rightT t) {leaf : Nat} (hm : memI t (leaf : Int)) {key : Nat} (hk : (leafN (nd t (2 * leaf)).name key).right) : rightT (updT t leaf key):=by
  obtain ⟨hg,h3⟩:=h.good
  have hl:=(memN_iff rfl _).1 hm
  refine (putT_good hg hl.1 hk (.inr ⟨rfl,hl.2,rfl⟩)).right ?_
  rcases h3 with h3 | ⟨j,a1,a2,a3⟩
  · exact .inl h3
  · refine .inr ⟨j,a1,a2,?_⟩
    rw [putT_nd hg.1 hg.2.1 hl.1]
    by_cases e : j = leaf
    · rw [if_pos (by omega)]; rfl
    · rw [if_neg (by omega),if_neg]
      · exact a3
      · intro q
        have:=((path_iff hg.1 hl.1 _).1 q).2.1
        omega
def cutT (t : List NodeV) : List NodeV:=t.take (2 * (lvs t / 2) - 1)
def shrT : Nat→List NodeV→List NodeV
  | 0,t=>t
  | f + 1,t=>if 1 < lvs t∧cntN (memI t) (lvs t / 2) (lvs t - lvs t / 2) = 0 then shrT f (cutT t) else t
theorem cut_good {t : List NodeV} {m : Nat} (h : goodL (2 ^ (m + 1)) t) (h0 : cntN (memI t) (2 ^ (m + 1) / 2) (2 ^ (m + 1) - 2 ^ (m + 1) / 2) = 0) : goodL (2 ^ m) (cutT t):=by
  have hl:=h.lvs
  obtain ⟨hL,hlen,h1,h2⟩:=h
  have hpow : 2 ^ (m + 1) = 2 * 2 ^ m:=by rw [Nat.pow_succ]; omega
  have hpos:=Nat.two_pow_pos m
  have hb:=hL.le
  have hM : Fit (2 ^ m):=fit_pow (by
    by_cases e : m≤5
    · exact e
    · have : 2 ^ 6≤2 ^ m:=Nat.pow_le_pow_right (by omega) (by omega)
      omega)
  unfold cutT
  rw [hl]
  generalize hQ : 2 ^ m = M at *
  rw [hpow] at hlen h1 h2 h0 hl hb
  have e1 : 2 * M / 2 = M:=by omega
  rw [hpow,e1]
  rw [e1] at h0
  have hnone : ∀ j,M≤j→j < 2 * M→(nd t (2 * j)).kind≠1:=by
    intro j a b c
    have : 0 < cntN (memI t) M (2 * M - M):=cntN_pos.2 ⟨j - M,by omega,by rw [show M + (j - M) = j by omega]; exact (memN_iff hl _).2 ⟨b,c⟩⟩
    omega
  have hnd : ∀ i,i < 2 * M - 1→nd (t.take (2 * M - 1)) i = nd t i:=by
    intro i hi'
    unfold nd
    rw [List.getD_eq_getElem?_getD,List.getD_eq_getElem?_getD,List.getElem?_take,if_pos hi']
  refine ⟨hM,by rw [List.length_take]; omega,fun i hi'=>?_,fun a b hab hbL ha hb'=>?_⟩
  · rw [hnd i hi']
    obtain ⟨a1,a2,a3⟩:=h1 i (by omega)
    refine ⟨a1,a2,fun u hu=>?_⟩
    obtain ⟨b1,b2,b3,b4,b5⟩:=a3 u hu
    have hu2 : u.toNat < M:=by
      rcases Nat.lt_or_ge u.toNat M with q | q
      · exact q
      · exact absurd b5 (hnone _ q (by omega))
    refine ⟨b1,b2,b3,by omega,?_⟩
    rw [hnd _ (by omega)]
    exact b5
  · rw [hnd _ (by omega)] at ha hb' ⊢
    rw [hnd _ (by omega)]
    exact h2 a b hab (by omega) ha hb'
theorem shrT_right : ∀ (f m : Nat) (t : List NodeV),m≤f→goodL (2 ^ m) t→rightT (shrT f t)
  | 0,m,t,hm,h=>by
    obtain rfl : m = 0:=by omega
    exact h.right (.inl rfl)
  | f + 1,m,t,hm,h=>by
    simp only [shrT,h.lvs]
    cases m with
    | zero =>
      rw [if_neg (fun q=>by have:=q.1; simp at this)]
      exact h.right (.inl rfl)
    | succ m =>
      by_cases h0 : cntN (memI t) (2 ^ (m + 1) / 2) (2 ^ (m + 1) - 2 ^ (m + 1) / 2) = 0
      · have hpos:=Nat.two_pow_pos m
        rw [if_pos ⟨by rw [Nat.pow_succ]; omega,h0⟩]
        exact shrT_right f m _ (by omega) (cut_good h h0)
      · rw [if_neg (fun q=>h0 q.2)]
        refine h.right (.inr ?_)
        obtain ⟨j,h1,h2⟩:=cntN_pos.1 (Nat.pos_of_ne_zero h0)
        have:=(memN_iff h.lvs _).1 h2
        exact ⟨_,by omega,this.1,this.2⟩
def rmT (t : List NodeV) (leaf : Nat) : List NodeV:=shrT 6 (putT t leaf NodeV.nought)
def remR (t : List NodeV) (leaf : Int) : List NodeV × Int :=
  if ¬ rightT t then ([],40) else if ¬ memI t leaf then ([],43) else if cntN (memI t) 0 (lvs t) = 1 then ([],40) else (rmT t leaf.toNat,0)
theorem rmT_right {t : List NodeV} (h : rightT t) {leaf : Nat} (hl : leaf < lvs t) : rightT (rmT t leaf):=by
  obtain ⟨hg,_⟩:=h.good
  have h1:=putT_good hg hl nought_right (.inl rfl)
  obtain ⟨m,hm,e⟩:=hg.1.pow
  rw [e] at h1
  exact shrT_right 6 m _ (by omega) h1
end Go.AM
namespace Go.AM
open Go
theorem memL_cntN (t : List NodeV) : ∀ k,(memL t k).length = cntN (memI t) 0 k
  | 0=>rfl
  | k + 1=>by
    simp only [memL,List.length_append,memL_cntN t k,cntN,Nat.zero_add]
    split <;> rfl
theorem leafN_name {name : List UInt8} {key : Nat} : (leafN name key).right↔(1≤name.length∧name.length≤16∧keyR key):=by
  rw [right_one (show (leafN name key).kind = 1 from rfl)]
  simp only [leafN,NodeV.held,keyR,List.length_nil]
  constructor
  · rintro ⟨h1,h2,⟨h3,h4,_⟩,_⟩
    exact ⟨h1,h2,by omega,by omega⟩
  · rintro ⟨h1,h2,h3,h4⟩
    exact ⟨h1,h2,⟨by omega,by omega,.inl trivial⟩,trivial⟩
end Go.AM
