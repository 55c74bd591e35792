/- Contracts of the program's functions, each walked once; the conditions stand in each theorem. -/
import Derived.Test.YtfjlmkifiihgkaaGreatDoorAMp6
import Derived.Test.YtfjlmkifiihgkaaGreatDoorW1
import Derived.Test.YtfjlmkifiihgkaaGreatDoorW6
import Derived.Test.YtfjlmkifiihgkaaGreatDoorW8
import Derived.Test.YtfjlmkifiihgkaaGreatDoorW5
import Derived.Test.YtfjlmkifiihgkaaGreatDoorW4
import Derived.Shelf.Slices.SearchI
import Derived.Shelf.Slices.Empties
import Derived.Test.YtfjlmkifiihgkaaGreatDoorAMp7
import Derived.Test.YtfjlmkifiihgkaaGreatDoorW2
import Derived.Test.YtfjlmkifiihgkaaGreatDoorAMp5
import Derived.Test.YtfjlmkifiihgkaaGreatDoorAMp4
set_option linter.unusedSimpArgs false
set_option linter.unusedVariables false
open Nat renaming reduceLT → Na, reduceLeDiff → Nb, reduceEqDiff → Nc, reduceAdd → Nk, reduceMul → Nf, reducePow → Ng, reduceSub → Nh, reduceBEq → Nz
open Int renaming reduceLT → Za, reduceLE → Zb, reduceToNat → Zc
open And renaming intro → Ai
open Go.AM renaming ashift → Qa, aconv → Qb, aindexAddr → Qc, aindex → Qd, aslice → Qe, abuiltin → Qf, awp_reg_seq → wS, awp_reg_end → wE, awp_seq_k → wK, awp_cond_k → wC
open Go.AM.AV renaming cells → Qg, one → Qh
set_option maxRecDepth 100000
set_option maxHeartbeats 8000000
set_option autoImplicit false
namespace Go.Proofs.YtfjlmkifiihgkaaGreatDoor
open Go Go.AM Go.Proofs
variable {Γ : Nat→List AV}
def hashF (t : List NodeV) : Nat→Nat→List UInt8
 | 0,n=>leafD ((n / 2 : Nat) : Int) (nd t n)
 | l + 1,n=>branchD (nd t n) (hashF t l (n - 2 ^ l)) (hashF t l (n + 2 ^ l))
theorem hashF_len (t : List NodeV) : ∀ l n,(hashF t l n).length≤32
 | 0,n=>by
  unfold hashF leafD
  split
  ·rw [Sha.sum_length]; exact Nat.le_refl _
  ·simp
 | l + 1,n=>by
  unfold hashF branchD
  split
  ·rw [Sha.sum_length]; exact Nat.le_refl _
  ·simp
theorem hash20_calls (hG0 : Γ 0 = stC Sha.H0) (hG1 : Γ 1 = Sha.K.map wV) (hG : Γ 3 = dB64.map u8C) (t : List NodeV) (ht : TreeW t) : ∀ (l n : Nat),lv n = l→n < 63→n + 2 ^ l≤t.length→∀ s,
  ACalls Tryz.prog Γ 77 [treeV t,.v (.int .i64 n)] s (fun r s'=>r = bytesV (hashF t l n) .any∧s' = s):=by
 intro l
 induction l with
 | zero =>
  intro n hl hn hs s
  refine acalls_body Tryz.func77 rfl Tryz.ntmps77 Tryz.results77 (by simp) ?_
  have hlc:=fun s=>left18_calls (Γ:=Γ) hG (n : Int) (by omega) s
  rw [kids_leaf hn hl] at hlc
  have hi : n < t.length:=by have : (2 : Nat) ^ 0 = 1:=rfl; omega
  have hat:=node_at hi
  have hH:=fun s=>leafHash_calls (Γ:=Γ) hG0 hG1 ((n / 2 : Nat) : Int) (by omega) (nd t n) (ht.nd n).1 s
  have hres : hashF t 0 n = leafD ((n / 2 : Nat) : Int) (nd t n):=rfl
  rw [hres]
  generalize leafD ((n / 2 : Nat) : Int) (nd t n) = D at *
  generalize nd t n = N at *
  unfold treeV
  generalize rowC NodeV.cells t = X at *
  obtain ⟨nk,nm,ny,npa,nu⟩:=N
  unfold NodeV.cells at hat hH
  unfold intsV at hat hH
  have hge : (0 : Int)≤(n : Int):=by omega
  refine jA ?_
  refine jK (hlc _) ?_;rintro s1 rfl
  refine wK fun K hK=>?_
  refine jA ?_
  refine jE ?_
  refine wS fun K hK=>?_
  simp only [↓DN,Qa,Qb,Qc,Qd,Qe,Qf,Qg,Qh,reduceCtorEq,↓reduceIte,Na,Nb,Nc,Nk,Nf,Ng,Nh,Za,Zb,Zc,TT,two0,iquo_nat n (by omega),eye_lt_nat,hi,hge,hat]
  refine acallk (hH _) ?_
  rintro r s2 ⟨rfl,rfl⟩
  refine jR hK ?_;clear hK K
  exact jJ
 | succ l ih =>
  intro n hl hn hs s
  refine acalls_body Tryz.func77 rfl Tryz.ntmps77 Tryz.results77 (by simp) ?_
  obtain ⟨hk,hl1,hl2,hb1,hb2,hb3⟩:=kids_branch hn hl
  have hlc:=fun s=>left18_calls (Γ:=Γ) hG (n : Int) (by omega) s
  have hrc:=fun s=>right18_calls (Γ:=Γ) hG (n : Int) (by omega) s
  rw [hk] at hlc hrc
  have hpos : 0 < 2 ^ l:=Nat.two_pow_pos l
  have hpow : 2 ^ (l + 1) = 2 ^ l + 2 ^ l:=by rw [Nat.pow_succ]; omega
  have hi : n < t.length:=by omega
  have hat:=node_at hi
  have h1:=fun s=>ih (n - 2 ^ l) hl1 (by omega) (by omega) s
  have h2:=fun s=>ih (n + 2 ^ l) hl2 hb1 (by omega) s
  have hB:=fun s=>branchHash_calls (Γ:=Γ) hG0 hG1 (nd t n) (ht.nd n).1 (hashF t l (n - 2 ^ l)) (hashF t l (n + 2 ^ l)) (by have:=hashF_len t l (n - 2 ^ l); have:=hashF_len t l (n + 2 ^ l); omega) s
  have hres : hashF t (l + 1) n = branchD (nd t n) (hashF t l (n - 2 ^ l)) (hashF t l (n + 2 ^ l)):=rfl
  rw [hres]
  clear ih hres
  generalize branchD (nd t n) (hashF t l (n - 2 ^ l)) (hashF t l (n + 2 ^ l)) = D at *
  generalize hashF t l (n - 2 ^ l) = H1 at *
  generalize hashF t l (n + 2 ^ l) = H2 at *
  generalize nd t n = N at *
  unfold treeV at *
  generalize rowC NodeV.cells t = X at *
  obtain ⟨nk,nm,ny,npa,nu⟩:=N
  unfold NodeV.cells at hat hB
  unfold intsV at hat hB
  have hge : (0 : Int)≤(n : Int):=by omega
  refine jA ?_
  refine jK (hlc _) ?_;rintro s1 rfl
  refine wK fun K hK=>?_
  refine jA ?_
  refine jF ?_
  refine awp_skip ?_
  refine hK _ _ ?_;clear hK K
  refine jK (hrc _) ?_;rintro s2 rfl
  refine awp_drw_seq T.mixed [6,9,10] (by kernel_rfl) ?_
  intro K hK
  simp only [↓DM,pval,DX,Nz,↓DN,Qa,Qb,Qc,Qd,Qe,Qf,Qg,Qh,reduceCtorEq,↓reduceIte,Na,Nb,Nc,Nk,Nf,Ng,Nh,Za,Zb,Zc,TT,eye_lt_nat,hi,hge,hat]
  refine acallk (h1 _) ?_
  rintro r s3 ⟨rfl,rfl⟩
  simp only [↓DM,pval,DX,Nz,↓DN,Qa,Qb,Qc,Qd,Qe,Qf,Qg,Qh,reduceCtorEq,↓reduceIte,Na,Nb,Nc,Nk,Nf,Ng,Nh,Za,Zb,Zc,TT]
  refine acallk (h2 _) ?_
  rintro r s4 ⟨rfl,rfl⟩
  simp only [↓DM,pval,DX,Nz,↓DN,Qa,Qb,Qc,Qd,Qe,Qf,Qg,Qh,reduceCtorEq,↓reduceIte,Na,Nb,Nc,Nk,Nf,Ng,Nh,Za,Zb,Zc,TT]
  refine acallk (hB _) ?_
  rintro r s5 ⟨rfl,rfl⟩
  refine jR hK ?_;clear hK K
  exact jJ
theorem leafD_right {t : List NodeV} (hr : rightT t) {n : Nat} (hn : n < 63) : leafD ((n / 2 : Nat) : Int) (nd t n) = Sha.sum (leafB ((n / 2 : Nat) : Int) (nd t n)):=by
 unfold leafD
 exact if_pos ⟨hr.nd n,by omega,by omega⟩
theorem branchD_right {t : List NodeV} (hr : rightT t) (n : Nat) (a b : List UInt8) : branchD (nd t n) a b = Sha.sum (branchB (nd t n) a b):=by
 unfold branchD
 exact if_pos (hr.nd n)
theorem refHash20_calls (t : List NodeV) (ht : TreeW t) (hr : rightT t) : ∀ (l n : Nat),lv n = l→n < 63→n + 2 ^ l≤t.length→∀ s,
  ACalls Tryz.prog Γ 22 [treeV t,.v (.int .i64 n)] s (fun r s'=>r = .v (.string ⟨(hashF t l n).toArray⟩)∧s' = s):=by
 intro l
 induction l with
 | zero =>
  intro n hl hn hs s
  refine acalls_body Tryz.func22 rfl Tryz.ntmps22 Tryz.results22 (by simp) ?_
  have hlc:=fun s=>refKids18_calls (Γ:=Γ) (n : Int) (by omega) s
  rw [kids_leaf hn hl] at hlc
  have hi : n < t.length:=by have : (2 : Nat) ^ 0 = 1:=rfl; omega
  have hat:=node_at hi
  have hH:=fun s=>refLeafHash_calls (Γ:=Γ) (n / 2) (by omega) (nd t n) (hr.nd n) s
  have hres : hashF t 0 n = Sha.sum (leafB ((n / 2 : Nat) : Int) (nd t n)):=leafD_right hr hn
  rw [hres]
  generalize Sha.sum (leafB ((n / 2 : Nat) : Int) (nd t n)) = D at *
  generalize nd t n = N at *
  unfold treeV
  generalize rowC NodeV.cells t = X at *
  obtain ⟨nk,nm,ny,npa,nu⟩:=N
  unfold NodeV.cells at hat hH
  unfold intsV at hat hH
  have hge : (0 : Int)≤(n : Int):=by omega
  refine jA ?_
  refine jK (hlc _) ?_;rintro s1 rfl
  refine wK fun K hK=>?_
  refine jA ?_
  refine jE ?_
  refine wS fun K hK=>?_
  simp only [↓DN,Qa,Qb,Qc,Qd,Qe,Qf,Qg,Qh,reduceCtorEq,↓reduceIte,Na,Nb,Nc,Nk,Nf,Ng,Nh,Za,Zb,Zc,TT,two0,iquo_nat n (by omega),eye_lt_nat,hi,hge,hat]
  refine acallk (hH _) ?_
  rintro r s2 ⟨rfl,rfl⟩
  refine jR hK ?_;clear hK K
  exact jJ
 | succ l ih =>
  intro n hl hn hs s
  refine acalls_body Tryz.func22 rfl Tryz.ntmps22 Tryz.results22 (by simp) ?_
  obtain ⟨hk,hl1,hl2,hb1,hb2,hb3⟩:=kids_branch hn hl
  have hlc:=fun s=>refKids18_calls (Γ:=Γ) (n : Int) (by omega) s
  rw [hk] at hlc
  have hpos : 0 < 2 ^ l:=Nat.two_pow_pos l
  have hpow : 2 ^ (l + 1) = 2 ^ l + 2 ^ l:=by rw [Nat.pow_succ]; omega
  have hi : n < t.length:=by omega
  have hat:=node_at hi
  have h1:=fun s=>ih (n - 2 ^ l) hl1 (by omega) (by omega) s
  have h2:=fun s=>ih (n + 2 ^ l) hl2 hb1 (by omega) s
  have hB:=fun s=>refBranchHash_calls (Γ:=Γ) (nd t n) (hr.nd n) (hashF t l (n - 2 ^ l)) (hashF t l (n + 2 ^ l)) (by have:=hashF_len t l (n - 2 ^ l); have:=hashF_len t l (n + 2 ^ l); omega) s
  have hres : hashF t (l + 1) n = Sha.sum (branchB (nd t n) (hashF t l (n - 2 ^ l)) (hashF t l (n + 2 ^ l))):=branchD_right hr n _ _
  rw [hres]
  clear ih hres
  generalize Sha.sum (branchB (nd t n) (hashF t l (n - 2 ^ l)) (hashF t l (n + 2 ^ l))) = D at *
  generalize hashF t l (n - 2 ^ l) = H1 at *
  generalize hashF t l (n + 2 ^ l) = H2 at *
  generalize nd t n = N at *
  unfold treeV at *
  generalize rowC NodeV.cells t = X at *
  obtain ⟨nk,nm,ny,npa,nu⟩:=N
  unfold NodeV.cells at hat hB
  unfold intsV at hat hB
  have hge : (0 : Int)≤(n : Int):=by omega
  refine jA ?_
  refine jK (hlc _) ?_;rintro s1 rfl
  refine wK fun K hK=>?_
  refine jA ?_
  refine jF ?_
  refine awp_skip ?_
  refine hK _ _ ?_;clear hK K
  refine awp_drw_seq T.mixed [6,9,10] (by kernel_rfl) ?_
  intro K hK
  simp only [↓DM,pval,DX,Nz,↓DN,Qa,Qb,Qc,Qd,Qe,Qf,Qg,Qh,reduceCtorEq,↓reduceIte,Na,Nb,Nc,Nk,Nf,Ng,Nh,Za,Zb,Zc,TT,eye_lt_nat,hi,hge,hat]
  refine acallk (h1 _) ?_
  rintro r s3 ⟨rfl,rfl⟩
  simp only [↓DM,pval,DX,Nz,↓DN,Qa,Qb,Qc,Qd,Qe,Qf,Qg,Qh,reduceCtorEq,↓reduceIte,Na,Nb,Nc,Nk,Nf,Ng,Nh,Za,Zb,Zc,TT]
  refine acallk (h2 _) ?_
  rintro r s4 ⟨rfl,rfl⟩
  simp only [↓DM,pval,DX,Nz,↓DN,Qa,Qb,Qc,Qd,Qe,Qf,Qg,Qh,reduceCtorEq,↓reduceIte,Na,Nb,Nc,Nk,Nf,Ng,Nh,Za,Zb,Zc,TT]
  refine acallk (hB _) ?_
  rintro r s5 ⟨rfl,rfl⟩
  refine jR hK ?_;clear hK K
  exact jJ
end Go.Proofs.YtfjlmkifiihgkaaGreatDoor
namespace Go.Proofs.YtfjlmkifiihgkaaGreatDoor
open Go Go.AM Go.Proofs
variable {Γ : Nat→List AV}
def HashT (t : List NodeV) (x : Int) : List UInt8:=if 0≤x∧x < (t.length : Int)∧rightT t then hashF t (lv x.toNat) x.toNat else []
def RootT (t : List NodeV) : List UInt8:=HashT t ((lvs t : Int) - 1)
theorem hashPub_calls (hG0 : Γ 0 = stC Sha.H0) (hG1 : Γ 1 = Sha.K.map wV) (hG : Γ 3 = dB64.map u8C) (t : List NodeV) (ht : TreeW t) (x : Int) (s : AS) :
  ACalls Tryz.prog Γ 19 [treeV t,.v (.int .i64 x)] s (fun r s'=>r = bytesV (HashT t x) .any∧s' = s):=by
 refine acalls_body Tryz.func19 rfl Tryz.ntmps19 Tryz.results19 (by simp) ?_
 have hr:=fun s=>right20_calls (Γ:=Γ) hG t ht s
 have hh:=fun n hn hs s=>hash20_calls (Γ:=Γ) hG0 hG1 hG t ht (lv n) n rfl hn hs s
 have htl:=ht.1
 have hno : ¬ (0≤x∧x < (t.length : Int)∧rightT t)→HashT t x = []:=fun h=>if_neg h
 have hyes : 0≤x∧x < (t.length : Int)∧rightT t→HashT t x = hashF t (lv x.toNat) x.toNat:=fun h=>if_pos h
 unfold treeV at *
 generalize rowC NodeV.cells t = X at *
 refine jA ?_
 refine wK fun K hK=>?_
 by_cases h0 : x < 0
 ·refine jB (decide_eq_true h0) ?_
  refine jE ?_
  refine jA ?_
  refine jI ?_
  refine ⟨_,_,AV.weak_nil (sz:=1),AS.le.refl _,?_,rfl⟩
  rw [hno (fun k=>by omega)]
  rfl
 ·by_cases h1 : (t.length : Int)≤x
  ·refine jB (Ai (decide_eq_false h0) (decide_eq_true h1)) ?_
   refine jE ?_
   refine jA ?_
   refine jI ?_
   refine ⟨_,_,AV.weak_nil (sz:=1),AS.le.refl _,?_,rfl⟩
   rw [hno (fun k=>by omega)]
   rfl
  ·refine jS (Ai (decide_eq_false h0) (decide_eq_false h1)) fun K hK=>?_
   refine acallk (hr _) ?_
   rintro r s1 ⟨rfl,rfl⟩
   by_cases hrt : rightT t
   ·rw [decide_eq_true hrt]
    refine jR hK ?_;clear hK K
    refine jF ?_
    refine awp_skip ?_
    refine hK _ _ ?_;clear hK K
    obtain ⟨n,rfl⟩:=Int.eq_ofNat_of_zero_le (show 0≤x by omega)
    have hn : n < t.length:=by omega
    obtain ⟨hs1,hs2⟩:=hrt.span hn
    refine jK (hh n hs2 hs1 _) ?_;rintro s2 rfl
    refine jI ?_
    refine ⟨_,_,AV.weak.refl _,AS.le.refl _,?_,rfl⟩
    rw [hyes ⟨by omega,by omega,hrt⟩,Int.toNat_natCast]
   ·rw [decide_eq_false hrt]
    refine jR hK ?_;clear hK K
    refine jE ?_
    refine jA ?_
    refine jI ?_
    refine ⟨_,_,AV.weak_nil (sz:=1),AS.le.refl _,?_,rfl⟩
    rw [hno (fun k=>hrt k.2.2)]
    rfl
theorem root20_calls (hG0 : Γ 0 = stC Sha.H0) (hG1 : Γ 1 = Sha.K.map wV) (hG : Γ 3 = dB64.map u8C) (t : List NodeV) (ht : TreeW t) (s : AS) :
  ACalls Tryz.prog Γ 70 [treeV t] s (fun r s'=>r = bytesV (RootT t) .any∧s' = s):=by
 refine acalls_body Tryz.func70 rfl Tryz.ntmps70 Tryz.results70 (by simp) ?_
 have hl:=fun s=>leaves_calls (Γ:=Γ) t ht.1 s
 have hh:=fun x s=>hashPub_calls (Γ:=Γ) hG0 hG1 hG t ht x s
 have hlv:=lvs_le t
 have hRoot : RootT t = HashT t ((lvs t : Int) - 1):=rfl
 unfold treeV at *
 generalize rowC NodeV.cells t = X at *
 refine jA ?_
 refine jQ fun K hK=>?_
 refine acallk (hl _) ?_
 rintro r s1 ⟨rfl,rfl⟩
 simp only [↓DM,pval,DX,Nz,↓DN,Qa,Qb,Qc,Qd,Qe,Qf,Qg,Qh,reduceCtorEq,↓reduceIte,Na,Nb,Nc,Nk,Nf,Ng,Nh,Za,Zb,Zc,TT,isub_i64 (a:=(lvs t : Int)) (b:=1) (by omega)]
 refine acallk (hh _ _) ?_
 rintro r s2 ⟨rfl,rfl⟩
 refine jR hK ?_;clear hK K
 exact jJ
theorem refRoot20_calls (t : List NodeV) (ht : TreeW t) (hr : rightT t) (s : AS) :
  ACalls Tryz.prog Γ 71 [treeV t] s (fun r s'=>r = .v (.string ⟨(RootT t).toArray⟩)∧s' = s):=by
 refine acalls_body Tryz.func71 rfl Tryz.ntmps71 Tryz.results71 (by simp) ?_
 have hl:=fun s=>refLeaves_calls (Γ:=Γ) t ht.1 s
 obtain ⟨h1,h2⟩:=hr.len
 have h2':=h2.le
 obtain ⟨hs1,hs2⟩:=hr.span (n:=lvs t - 1) (by omega)
 have hh:=fun s=>refHash20_calls (Γ:=Γ) t ht hr (lv (lvs t - 1)) (lvs t - 1) rfl hs2 hs1 s
 have hRoot : RootT t = hashF t (lv (lvs t - 1)) (lvs t - 1):=by
  unfold RootT HashT
  rw [if_pos ⟨by omega,by omega,hr⟩,show ((lvs t : Int) - 1).toNat = lvs t - 1 by omega]
 rw [hRoot]
 clear hRoot
 generalize hashF t (lv (lvs t - 1)) (lvs t - 1) = D at *
 have e1 : isub .i64 (lvs t : Int) 1 = ((lvs t - 1 : Nat) : Int):=by rw [isub_i64 (by omega)]; omega
 unfold treeV at *
 generalize rowC NodeV.cells t = X at *
 refine jA ?_
 refine jQ fun K hK=>?_
 refine acallk (hl _) ?_
 rintro r s1 ⟨rfl,rfl⟩
 simp only [↓DM,pval,DX,Nz,↓DN,Qa,Qb,Qc,Qd,Qe,Qf,Qg,Qh,reduceCtorEq,↓reduceIte,Na,Nb,Nc,Nk,Nf,Ng,Nh,Za,Zb,Zc,TT,e1]
 refine acallk (hh _) ?_
 rintro r s2 ⟨rfl,rfl⟩
 refine jR hK ?_;clear hK K
 exact jJ
end Go.Proofs.YtfjlmkifiihgkaaGreatDoor
namespace Go.Proofs.YtfjlmkifiihgkaaGreatDoor
open Go Go.AM Go.Proofs
variable {Γ : Nat→List AV}
def RES (s0 : AS) (k : Nat) (cs : List AV) (L : List Int) (r : AV) (s' : AS) : Prop:=RBuf 1 s0 s' r (k + L.length) (cs ++ L.map intC)∧s0.le s'
end Go.Proofs.YtfjlmkifiihgkaaGreatDoor
namespace Go.Proofs.YtfjlmkifiihgkaaGreatDoor
open Go Go.AM Go.Proofs
variable {Γ : Nat→List AV}
def NewBuf (s s' : AS) (r : AV) (l : List Int) : Prop:=OBuf 1 s' r l.length (l.map intC)∧(∀ o,onm r = some o→s.objs o = none)∧s.le s'
theorem intsCloneB_nil (s : AS) : ACalls Tryz.prog Γ 210 [nilS] s (fun r s'=>NewBuf s s' r []):=by
 refine acalls_body Tryz.func210 rfl Tryz.ntmps210 Tryz.results210 (by simp) ?_
 unfold nilS
 refine jA ?_
 refine wK fun K hK=>?_
 refine jA ?_
 refine jE ?_
 refine jA ?_
 refine jI ?_
 exact ⟨_,_,AV.weak.refl _,AS.le.refl _,.inl ⟨rfl,rfl,.inl rfl⟩,(fun o h=>by cases h),AS.le.refl _⟩
theorem intsCloneB_no (l : List Int) (s : AS) (hl : l.length≤2 ^ 42) : ACalls Tryz.prog Γ 210 [intsV l .no] s (fun r s'=>NewBuf s s' r l):=by
 refine acalls_body Tryz.func210 rfl Tryz.ntmps210 Tryz.results210 (by simp) ?_
 unfold intsV
 refine jA ?_
 refine wK fun K hK=>?_
 refine jB @and_false ?_
 refine jF ?_
 refine awp_skip ?_
 refine hK _ _ ?_;clear hK K
 by_cases h0 : l.length = 0
 ·have hl0 : l = []:=List.eq_nil_of_length_eq_zero h0
  subst hl0
  refine jA ?_
  refine jI ?_
  exact ⟨_,s,AV.weak.refl _,AS.le.refl s,.inl ⟨rfl,rfl,.inr (.inr rfl)⟩,(fun o h=>by cases h),AS.le.refl _⟩
 ·refine awp_reg_at2 rfl (by decide) ?_
  intro ops
  simp only [↓DM,pval,DX,Nz,↓DN,Qa,Qb,Qc,Qd,Qe,Qf,Qg,Qh,reduceCtorEq,↓reduceIte,Na,Nb,Nc,Nk,Nf,Ng,Nh,Za,Zb,Zc,TT]
  refine ⟨_,fun G a w hr=>append_own_res (n:=0) (m:=l.length) (cs:=[]) (ds:=l.map intC) (e:=3) (z:=[.v (.int .i64 0)]) rfl Tryz.underlying39 (by simp only [↓DN,Qa,Qb,Qc,Qd,Qe,Qf,Qg,Qh,reduceCtorEq,↓reduceIte,Na,Nb,Nc,Nk,Nf,Ng,Nh,Za,Zb,Zc,TT]; try rfl) (by simp only [↓DN,Qa,Qb,Qc,Qd,Qe,Qf,Qg,Qh,reduceCtorEq,↓reduceIte,Na,Nb,Nc,Nk,Nf,Ng,Nh,Za,Zb,Zc,TT]; try rfl) (by rw [T.c3]; decide) (by rw [T.c3]; rfl) (by simp only [↓DN,Qa,Qb,Qc,Qd,Qe,Qf,Qg,Qh,reduceCtorEq,↓reduceIte,Na,Nb,Nc,Nk,Nf,Ng,Nh,Za,Zb,Zc,TT,asrc,aeval,upd,Nc,↓reduceIte]) h0 (by rw [T.b3]; omega) (by omega) (by simp [List.all_eq_true,intC,AV.one]) (by rw [T.c3]; exact .inl ⟨rfl,rfl,.inr (.inr rfl)⟩) hr.eval hr.st,?_⟩
  rw [T.c3]
  rintro r s1 ⟨ob,cap,rest,rfl,hcap,h63,hrl,hob,rfl⟩
  simp only [↓DM,pval,DX,Nz,↓DN,Qa,Qb,Qc,Qd,Qe,Qf,Qg,Qh,reduceCtorEq,↓reduceIte,Na,Nb,Nc,Nk,Nf,Ng,Nh,Za,Zb,Zc,TT]
  refine jI ?_
  have hob : s.objs ob = none:=by
   rcases hob with h | ⟨_,h⟩
   ·exact h
   ·simp [aeval,upd] at h
  rw [Nat.zero_add,Nat.mul_one] at *
  refine ⟨_,_,AV.weak.refl _,AS.le.refl _,.inr ⟨ob,cap,rest,rfl,AS.set_objs_same _ _ _,by simp,by rw [Nat.mul_one]; exact hrl,hcap,h63⟩,fun o h=>?_,AS.le_set (AS.le.refl s) hob _⟩
  cases h
  exact hob
theorem intsCloneB_calls (l : List Int) (s : AS) (hl : l.length≤2 ^ 42) : ACalls Tryz.prog Γ 210 [intsV l .any] s (fun r s'=>NewBuf s s' r l) :=
 ACalls.anyS (post:=[]) (fun e _=>by obtain rfl : l = []:=List.eq_nil_of_length_eq_zero e; exact intsCloneB_nil s) (intsCloneB_no l s hl)
end Go.Proofs.YtfjlmkifiihgkaaGreatDoor
namespace Go.Proofs.YtfjlmkifiihgkaaGreatDoor
open Go Go.AM Go.Proofs
variable {Γ : Nat→List AV}
theorem nodeCloneB_calls (N : NodeV) (hm : N.name.length≤2 ^ 45) (hp : N.parent.length≤2 ^ 45) (hu : N.unm.length≤2 ^ 42) (s : AS) : ACalls Tryz.prog Γ 143 [.agg N.cells] s (fun r s'=>∃ x,r = .agg (cellsX (N,x))∧NewBuf s s' x N.unm):=by
 refine acalls_body Tryz.func143 rfl Tryz.ntmps143 Tryz.results143 (by simp) ?_
 unfold NodeV.cells
 obtain ⟨k,m,y,pa,u⟩:=N
 simp only at hp hu hm
 refine jS @intsV.eq_1 fun K hK=>?_
 intro o1 ho1 o2 ho2
 have h21 : o2≠o1:=by
  rintro rfl
  simp [AS.set] at ho2
 have h12:=h21.symm
 have h20 : s.objs o2 = none:=by simpa [AS.set,upd,h21] using ho2
 refine hK _ _ ?_;clear hK K
 refine awp_mrk_seq T.mixed [(o1,[.v (.int .i64 k),.sl 1 m.length (m.map byteV) .any,.v (.int .u64 y),.sl 1 pa.length (pa.map byteV) .any,.sl 1 u.length (u.map intC) .any])] [2,5,8] [1,4,7] [10,12,14] (by kernel_rfl) (by simp only [Pres_cons,Pres_nil,and_true]; simp [AS.set,upd,h12,h21]) ?_
 intro K hK
 simp only [↓AXr_nil,↓AXr_cons,gval,lval,fzGet_cons,fzGet_nil,Pres_cons,Pres_nil,List.any_cons,List.any_nil,List.contains_cons,List.contains_nil,Nat.reduceBEq,Bool.or_false,Bool.or_true,Bool.or_self,Bool.false_or,↓DN,Qa,Qb,Qc,Qd,Qe,Qf,Qg,Qh,reduceCtorEq,↓reduceIte,Na,Nb,Nc,Nk,Nf,Ng,Nh,Za,Zb,Zc,TT,h21,h12]
 refine acallk (bytesClone_calls m _ (by omega)) ?_
 rintro r s' ⟨rfl,rfl⟩
 simp only [↓AXq_nil,↓AXq_cons,pval,↓AXr_nil,↓AXr_cons,gval,lval,fzGet_cons,fzGet_nil,Pres_cons,Pres_nil,List.any_cons,List.any_nil,DX,Nat.reduceBEq,↓DN,Qa,Qb,Qc,Qd,Qe,Qf,Qg,Qh,reduceCtorEq,↓reduceIte,Na,Nb,Nc,Nk,Nf,Ng,Nh,Za,Zb,Zc,TT,h21,h12]
 refine acallk (bytesClone_calls pa _ hp) ?_
 rintro r s' ⟨rfl,rfl⟩
 simp only [↓AXq_nil,↓AXq_cons,pval,↓AXr_nil,↓AXr_cons,gval,lval,fzGet_cons,fzGet_nil,Pres_cons,Pres_nil,List.any_cons,List.any_nil,DX,Nat.reduceBEq,↓DN,Qa,Qb,Qc,Qd,Qe,Qf,Qg,Qh,reduceCtorEq,↓reduceIte,Na,Nb,Nc,Nk,Nf,Ng,Nh,Za,Zb,Zc,TT,h21,h12]
 refine acallk (intsCloneB_calls u _ hu) ?_
 rintro r s' ⟨hb,hnew,hle⟩
 have q1 : s'.objs o1 = some [.v (.int .i64 k),.sl 1 m.length (m.map byteV) .any,.v (.int .u64 y),.sl 1 pa.length (pa.map byteV) .any,.sl 1 u.length (u.map intC) .any]:=hle.objs _ _ (by simp [AS.set,upd,h12])
 have q2 : s'.objs o2 = some [.v (.int .i64 0),.v (.slice none 0 0),.v (.int .u64 0),.v (.slice none 0 0),.v (.slice none 0 0)]:=hle.objs _ _ (AS.set_objs_same _ _ _)
 have hs : s.le s':=(AS.le_set (AS.le_set (AS.le.refl s) ho1 _) h20 _).trans hle
 have n1 : onm r≠some o1:=fun e=>by have:=hnew o1 e; simp [AS.set,upd,h12] at this
 have n2 : onm r≠some o2:=fun e=>by have:=hnew o2 e; simp [AS.set] at this
 have n0 : ∀ o,onm r = some o→s.objs o = none:=fun o e=>AS.le_none (AS.le_set (AS.le_set (AS.le.refl s) ho1 _) h20 _) (hnew o e)
 have hone : r.one = true:=by
  rcases hb with ⟨_,_,rfl | rfl | rfl⟩ | ⟨_,_,_,rfl,_⟩ <;> rfl
 have hcell : r.cells = [r]:=by
  rcases hb with ⟨_,_,rfl | rfl | rfl⟩ | ⟨_,_,_,rfl,_⟩ <;> rfl
 unfold AV.cells at hcell
 unfold AV.one at hone
 simp only [↓AXq_nil,↓AXq_cons,pval,↓AXr_nil,↓AXr_cons,gval,lval,fzGet_cons,fzGet_nil,Pres_cons,Pres_nil,List.any_cons,List.any_nil,DX,Nat.reduceBEq,↓DN,Qa,Qb,Qc,Qd,Qe,Qf,Qg,Qh,reduceCtorEq,↓reduceIte,Na,Nb,Nc,Nk,Nf,Ng,Nh,Za,Zb,Zc,TT,q1,q2,hcell,h21,h12,intsV,hone]
 refine hK _ _ ?_;clear hK K
 refine jB (Ai @q1 (Ai @q2 (Ai @hcell (Ai @h21 (Ai @h12 (Ai @intsV.eq_1 @hone)))))) ?_
 refine awp_ret ?_
 refine aends_cell (o:=o2) (off:=0) (by simp only [upd,Nc,↓reduceIte]) (AS.set_objs_same _ _ _) (by rw [T.c69]; decide) (by simp only [↓DN,Qa,Qb,Qc,Qd,Qe,Qf,Qg,Qh,reduceCtorEq,↓reduceIte,Na,Nb,Nc,Nk,Nf,Ng,Nh,Za,Zb,Zc,TT]; rfl) ?_
 refine ⟨_,_,AV.weak.refl _,AS.le.refl _,r,rfl,?_,n0,?_⟩
 ·first | exact ((((hb.set_ne n1).set_ne n1).set_ne n1).set_ne n2) | exact ((hb.set_ne n1).set_ne n2)
 ·first | exact AS.le_set (AS.le_set (AS.le_set (AS.le_set hs ho1 _) ho1 _) ho1 _) h20 _ | exact AS.le_set (AS.le_set hs ho1 _) h20 _
end Go.Proofs.YtfjlmkifiihgkaaGreatDoor
namespace Go.Proofs.YtfjlmkifiihgkaaGreatDoor
open Go Go.AM Go.Proofs
variable {Γ : Nat→List AV}
theorem zrow_quin (a b c d e : AV) : zrow 5 [a,b,c,d,e] = [a,b,c,d,e]:=rfl
theorem TreeO.leR {s0 s s' : AS} {X : AV} {TS : List (NodeV × AV)} (h : TreeO s0 s X TS) (k : s.le s') : TreeO s0 s' X TS :=
 ⟨⟨fun p hp=>(h.xs.buf p hp).le k,h.xs.new,h.xs.sep⟩,h.le.trans k,h.row.le k,h.newR,h.sepR⟩
def NodeW (n : NodeV) : Prop:=n.name.length≤2 ^ 45∧n.parent.length≤2 ^ 45∧n.unm.length≤2 ^ 42
theorem clone20_calls (t : List NodeV) (ht : t.length≤2 ^ 30) (hw : ∀ n ∈ t,NodeW n) (s : AS) : ACalls Tryz.prog Γ 69 [treeV t] s (fun r s'=>∃ TS,TS.map (·.1) = t∧TreeO s s' r TS):=by
 refine acalls_body Tryz.func69 rfl Tryz.ntmps69 Tryz.results69 (by simp) ?_
 have hat:=fun i (h : i < t.length)=>node_at (t:=t) h
 have hnW : ∀ i (h : i < t.length),NodeW (nd t i):=fun i h=>by rw [nd_get h]; exact hw _ (List.getElem_mem h)
 have htk : ∀ i (h : i < t.length),t.take (i + 1) = t.take i ++ [nd t i]:=fun i h=>by rw [List.take_succ_eq_append_getElem h,nd_get h]
 unfold treeV at *
 generalize rowC NodeV.cells t = X at *
 refine jA ?_
 refine jA ?_
 refine wK fun K hK=>?_
 refine jA ?_
 refine awp_block ?_
 refine awp_loop (fun E s2=>∃ (i : Nat) (x : AV) (TS : List (NodeV × AV)),i≤t.length∧E 8 = .v (.int .i64 i)∧E 7 = .v (.int .i64 t.length)∧E 6 = .sl 5 t.length X .any∧E 3 = x∧TS.map (·.1) = t.take i∧TreeO s s2 x TS)
  (fun E _=>match E 8 with | .v (.int _ i)=>t.length - i.toNat | _=>0) ?_ ?_
 ·exact ⟨0,_,[],Nat.zero_le _,by simp only [upd,Nc,↓reduceIte]; rfl,by simp only [upd,Nc,↓reduceIte],by simp only [upd,Nc,↓reduceIte],by simp only [upd,Nc,↓reduceIte]; rfl,rfl,TreeO.nil s⟩
 ·rintro E1 s2 ⟨i,x,TS,hi,g8,g7,g6,g3,hT,hx⟩ -
  by_cases hi' : i < t.length
  ·refine jB (Ai @g8 (Ai @g7 (Ai @eye_lt_nat (decide_eq_true hi')))) ?_
   refine wK fun K2 hK2=>?_
   refine jE ?_
   refine awp_skip ?_
   refine hK2 _ _ ?_;clear hK2 K2
   refine wK fun K3 hK3=>?_
   refine awp_block ?_
   have hat':=hat i hi'
   have hN:=hnW i hi'
   have hstep:=htk i hi'
   generalize nd t i = N at *
   have hTl : TS.length = i:=by have:=congrArg List.length hT; simp at this; omega
   have hge : (0 : Int)≤((i : Nat) : Int):=by omega
   obtain ⟨nk,nm,ny,npa,nu⟩:=N
   unfold NodeV.cells at hat'
   simp only at hat'
   refine awp_reg_frz 5 (by decide) ?_
   intro K hK
   simp only [↓DM,pval,DX,Nz,↓DN,Qa,Qb,Qc,Qd,Qe,Qf,Qg,Qh,reduceCtorEq,↓reduceIte,Na,Nb,Nc,Nk,Nf,Ng,Nh,Za,Zb,Zc,TT,g6,g8,eye_lt_nat,hi',hge,hat',intsV]
   intro o1 h1
   refine hK _ _ o1 _ (by simp only [upd,Nc,↓reduceIte]) h1 ?_
   clear hK K h1
   refine awp_region_at4 rfl (by decide) ?_
   intro ops
   simp only [↓DM,pval,DX,Nz,↓DN,Qa,Qb,Qc,Qd,Qe,Qf,Qg,Qh,reduceCtorEq,↓reduceIte,Na,Nb,Nc,Nk,Nf,Ng,Nh,Za,Zb,Zc,TT,g3]
   refine acallk (nodeCloneB_calls ⟨nk,nm,ny,npa,nu⟩ hN.1 hN.2.1 hN.2.2 _) ?_
   rintro r s3 ⟨xn,rfl,hb,hnew,hle3⟩
   unfold cellsX at *
   simp only [↓DM,pval,DX,Nz,↓DN,Qa,Qb,Qc,Qd,Qe,Qf,Qg,Qh,reduceCtorEq,↓reduceIte,Na,Nb,Nc,Nk,Nf,Ng,Nh,Za,Zb,Zc,TT,g3,zrow_quin]
   have hs0 : s2.le s3:=hle3
   have hrow : OBuf 5 s3 x i (rowC cellsX TS):=by
    have:=hx.row.le hle3
    rwa [hTl] at this
   have hone : xn.one = true:=by
    rcases hb with ⟨_,_,rfl | rfl | rfl⟩ | ⟨_,_,_,rfl,_⟩ <;> rfl
   refine ⟨_,fun G a w hr=>append_own_res (n:=i) (m:=1) (cs:=rowC cellsX TS) (ds:=cellsX (⟨nk,nm,ny,npa,nu⟩,xn)) (e:=69) rfl Tryz.underlying26 (by simp only [↓DN,Qa,Qb,Qc,Qd,Qe,Qf,Qg,Qh,reduceCtorEq,↓reduceIte,Na,Nb,Nc,Nk,Nf,Ng,Nh,Za,Zb,Zc,TT]; try rfl) T.z69 (by rw [T.c69]; decide) (by rw [T.c69]; rfl) (by rw [T.c69]; simp only [↓DN,Qa,Qb,Qc,Qd,Qe,Qf,Qg,Qh,reduceCtorEq,↓reduceIte,Na,Nb,Nc,Nk,Nf,Ng,Nh,Za,Zb,Zc,TT,asrc,aeval,upd,Nc,↓reduceIte]; rfl) (by decide) (by rw [T.b69]; omega) (by omega) (by simp only [cellsX,List.all_cons,List.all_nil,hone]; rfl) (by rw [T.c69]; exact hrow) hr.eval hr.st,?_⟩
   rw [T.c69]
   rintro r s4 ⟨ob,cap,rest,rfl,hcap,h63,hrl,hob,rfl⟩
   have hob' : s3.objs ob = none∨∃ cap0,x = .osl ob 0 5 TS.length cap0:=by
    rw [hTl]; exact hob
   have hpush:=(TreeO.leR hx hle3).push (p:=(⟨nk,nm,ny,npa,nu⟩,xn)) (ob:=ob) (cap:=cap) (rest:=rest) hb
    (fun o ho=>⟨AS.le_none hx.le (hnew o ho),(fun q hq e=>by obtain ⟨ds,hd⟩:=(hx.xs.buf q hq).some e; rw [hnew o ho] at hd; cases hd),(fun e=>by obtain ⟨ds,hd⟩:=hx.row.some e; rw [hnew o ho] at hd; cases hd)⟩)
    hob' (by rw [hTl]; exact hcap) h63 (by rw [hTl]; exact hrl)
   rw [hTl,List.append_assoc] at hpush
   refine jV @g3 hK3 ?_;clear hK3 K3
   refine jD (Ai @g8 (eye_succM i (by omega))) ?_
   refine ⟨⟨i + 1,.osl ob 0 5 (i + 1) cap,TS ++ [(⟨nk,nm,ny,npa,nu⟩,xn)],by omega,by simp only [upd,Nc,↓reduceIte],by simp only [upd,g7,Nc,↓reduceIte],by simp only [upd,g6,Nc,↓reduceIte],by simp only [upd,Nc,↓reduceIte],by rw [List.map_append,hT,hstep]; rfl,hpush⟩,?_⟩
   simp only [g8,upd,↓reduceIte]
   omega
  ·refine jB (Ai @g8 (Ai @g7 (Ai @eye_lt_nat (decide_eq_false hi')))) ?_
   refine wK fun K2 hK2=>?_
   refine jF ?_
   refine awp_exit ?_
   simp only [thenQ,blockQ,if_true]
   refine hK _ _ ?_;clear hK hK2 K2 K
   obtain rfl : i = t.length:=by omega
   refine jB @g3 ?_
   refine jI ?_
   exact ⟨_,_,AV.weak.refl _,AS.le.refl _,TS,by rw [hT,List.take_length],hx⟩
end Go.Proofs.YtfjlmkifiihgkaaGreatDoor
namespace Go.Proofs.YtfjlmkifiihgkaaGreatDoor
open Go Go.AM Go.Proofs
variable {Γ : Nat→List AV}
theorem eyeN1_lt (st : EyeSt) : (eyeNum 1 st).1 < 256:=Nat.lt_of_lt_of_le (eyeNum_lt 1 st) (by decide)
theorem treeN_weak {x : AV} {l : List NodeV} (h : x.weak (.sl 5 l.length (rowC NodeV.cells l) .any)) (h0 : l≠[]) : x.weak (treeN l):=by
 unfold treeN
 rw [if_neg h0]
 exact h
theorem treeRead_calls (hG : Γ 3 = dB64.map u8C) (s : AS) (p : Nat) (st : EyeSt) (hl : st.1.length≤2 ^ 44) (h : s.objs p = some (eyeC st)) :
  ACalls Tryz.prog Γ 103 [.ptr p 0] s (fun r s'=>r = treeN (treeRead st).1∧s' = s.set p (eyeC (treeRead st).2)):=by
 refine acalls_body Tryz.func103 rfl Tryz.ntmps103 Tryz.results103 (by simp) ?_
 obtain ⟨q1,e1⟩ : ∃ q,q = eyeNum 1 st:=⟨_,rfl⟩
 have l1 : q1.2.1.length≤2 ^ 44:=by rw [e1]; exact Nat.le_trans (eyeNum_len _ _) hl
 have k1 : q1.1 < 256:=by rw [e1]; exact eyeN1_lt _
 have hu8:=eyeU8_set (Γ:=Γ) s p st h
 rw [← e1] at hu8
 have hfi:=fun s=>fits18_calls (Γ:=Γ) (q1.1 : Int) s
 have hwd:=fun s=>width18_calls (Γ:=Γ) (q1.1 : Int) s
 have hle0 : ∀ c,(s.drop p).le (s.set p c):=fun c=>AS.le_set (AS.drop_le s p) (AS.drop_self s p) c
 by_cases hf : Fit q1.1
 ·have htr : treeRead st = treeEnd (eyeNodes (2 * q1.1 - 1) q1.2):=by simp only [treeRead,← e1,if_pos hf]
  rw [htr]
  rw [decide_eq_true (fitI_nat.2 hf)] at hfi
  have hwi : widI (q1.1 : Int) = ((2 * q1.1 - 1 : Nat) : Int):=by
   have:=hf.le
   unfold widI
   rw [if_pos (fitI_nat.2 hf)]
   omega
  rw [hwi] at hwd
  have hfl:=hf.le
  generalize hn : 2 * q1.1 - 1 = n at *
  refine jA ?_
  refine jA ?_
  refine jK hu8 ?_;rintro s1 rfl
  refine wK fun K hK=>?_
  refine jK (hfi _) ?_;rintro s2 rfl
  refine jF ?_
  refine awp_skip ?_
  refine hK _ _ ?_;clear hK K
  refine wK fun K hK=>?_
  refine jK (hwd _) ?_;rintro s3 rfl
  refine awp_block ?_
  refine awp_loop (fun E s2=>∃ (i : Nat) (x : AV),i≤n∧E 14 = .v (.int .i64 i)∧E 13 = .v (.int .i64 n)∧E 3 = x∧E 0 = .ptr p 0∧s2.objs p = some (eyeC (eyeNodes i q1.2).2)∧(s.drop p).le s2∧RBuf 5 (s.drop p) s2 x i (rowC NodeV.cells (eyeNodes i q1.2).1))
   (fun E _=>match E 14 with | .v (.int _ i)=>n - i.toNat | _=>0) ?_ ?_
  ·exact ⟨0,_,Nat.zero_le _,by simp only [upd,Nc,↓reduceIte]; rfl,by simp only [upd,Nc,↓reduceIte],by simp only [upd,Nc,↓reduceIte]; rfl,by simp only [upd,initE,List.getD_cons_zero,List.getD_cons_succ,Nc,↓reduceIte],AS.set_objs_same _ _ _,hle0 _,RBuf.nil _ _ _⟩
  ·rintro E1 s4 ⟨i,x,hi,g14,g13,g3,g0,hob,hle,hx⟩ -
   have hSl : (eyeNodes i q1.2).2.1.length≤2 ^ 44:=Nat.le_trans (eyeNodes_left _ _) l1
   have hLl:=eyeNodes_len i q1.2
   by_cases hi' : i < n
   ·refine jB (Ai @g14 (Ai @g13 (Ai @eye_lt_nat (decide_eq_true hi')))) ?_
    refine wK fun K2 hK2=>?_
    refine jE ?_
    refine awp_skip ?_
    refine hK2 _ _ ?_;clear hK2 K2
    refine wK fun K3 hK3=>?_
    refine awp_block ?_
    have hsu : eyeNodes (i + 1) q1.2 = ((eyeNodes i q1.2).1 ++ [(nodeRead (eyeNodes i q1.2).2).1],(nodeRead (eyeNodes i q1.2).2).2):=rfl
    have hend : ∀ (E : Env) (s5 : AS) (x2 : AV),E 14 = .v (.int .i64 i)→E 13 = .v (.int .i64 n)→E 3 = x2→E 0 = .ptr p 0→s5.objs p = some (eyeC (eyeNodes (i + 1) q1.2).2)→(s.drop p).le s5→RBuf 5 (s.drop p) s5 x2 (i + 1) (rowC NodeV.cells (eyeNodes (i + 1) q1.2).1)→K3 E s5:=by
     intro E s5 x2 f14 f13 f3 f0 fo fle fx
     refine hK3 _ _ ?_;clear hK3 K3
     refine jD (Ai @f14 (eye_succM i (by omega))) ?_
     refine ⟨⟨i + 1,x2,by omega,by simp only [upd,Nc,↓reduceIte],by simp only [upd,f13,Nc,↓reduceIte],by simp only [upd,f3,Nc,↓reduceIte],by simp only [upd,f0,Nc,↓reduceIte],fo,fle,fx⟩,?_⟩
     simp only [g14,upd,↓reduceIte]
     omega
    clear hK3
    rw [hsu] at hend
    simp only [row_snoc] at hend
    generalize eyeNodes i q1.2 = Q at *
    have hrd:=nodeRead_calls (Γ:=Γ) s4 p Q.2 hSl hob
    generalize nodeRead Q.2 = R at *
    obtain ⟨⟨nk,nm,ny,npa,nu⟩,S⟩:=R
    simp only at hend hrd
    generalize rowC NodeV.cells Q.1 = L at *
    unfold NodeV.cells at hend hrd
    unfold bytesV intsV at hend hrd
    have hle2 : ∀ c,(s.drop p).le (s4.set p c):=fun c=>AS.le_set hle (AS.drop_self s p) c
    rcases hx with ⟨rfl,hi0,hL0⟩ | ⟨t',e,rfl,ht',ht0⟩
    ·refine jU (Ai @g3 @g0) fun K hK=>?_
     refine acallk hrd ?_
     rintro r s5 ⟨rfl,rfl⟩
     simp only [↓DM,pval,DX,Nz,↓DN,Qa,Qb,Qc,Qd,Qe,Qf,Qg,Qh,reduceCtorEq,↓reduceIte,Na,Nb,Nc,Nk,Nf,Ng,Nh,Za,Zb,Zc,TT,g3,g0,zrow_quin,nilS]
     intro t' ht'
     refine hK _ _ ?_
     simp only [blockQ,thenQ,if_true,if_false]
     subst hi0
     rw [hL0] at hend
     have hn0 : (s.drop p).own t' = none:=own_none_le (hle2 (eyeC S)) ht'
     exact hend _ _ (.sl 5 1 [.v (.int .i64 nk),.sl 1 nm.length (nm.map byteV) .any,.v (.int .u64 ny),.sl 1 npa.length (npa.map byteV) .any,.sl 1 nu.length (nu.map intC) .any] (.own t' 0)) (by simp only [upd,g14,Nc,↓reduceIte]) (by simp only [upd,g13,Nc,↓reduceIte]) (by simp only [upd,Nc,↓reduceIte]) (by simp only [upd,g0,Nc,↓reduceIte]) (AS.set_objs_same _ _ _) (AS.le_gain (hle2 _) hn0 0) (.inr ⟨t',0,rfl,by simp [AS.gain],hn0⟩)
    ·refine jU (Ai @g3 @g0) fun K hK=>?_
     refine acallk hrd ?_
     rintro r s5 ⟨rfl,rfl⟩
     simp only [↓DM,pval,DX,Nz,↓DN,Qa,Qb,Qc,Qd,Qe,Qf,Qg,Qh,reduceCtorEq,↓reduceIte,Na,Nb,Nc,Nk,Nf,Ng,Nh,Za,Zb,Zc,TT,g3,g0,zrow_quin,ht']
     refine ⟨by omega,by omega,hK _ _ ?_⟩
     simp only [blockQ,thenQ,if_true,if_false]
     exact hend _ _ (.sl 5 (i + 1) (L ++ [.v (.int .i64 nk),.sl 1 nm.length (nm.map byteV) .any,.v (.int .u64 ny),.sl 1 npa.length (npa.map byteV) .any,.sl 1 nu.length (nu.map intC) .any]) (.own t' (e + 1))) (by simp only [upd,g14,Nc,↓reduceIte]) (by simp only [upd,g13,Nc,↓reduceIte]) (by simp only [upd,Nc,↓reduceIte]) (by simp only [upd,g0,Nc,↓reduceIte]) (AS.set_objs_same _ _ _) (AS.le_gain (hle2 _) ht0 (e + 1)) (.inr ⟨t',e + 1,rfl,by simp [AS.gain],ht0⟩)
   ·obtain rfl : i = n:=by omega
    have hW:=eyeNodes_W i (by omega) q1.2
    refine jB (Ai @g14 (Ai @g13 (Ai @eye_lt_nat (decide_eq_false hi')))) ?_
    refine wK fun K2 hK2=>?_
    refine jF ?_
    refine awp_exit ?_
    simp only [thenQ,blockQ,if_true]
    refine hK _ _ ?_;clear hK hK2 K2 K
    generalize eyeNodes i q1.2 = Q at *
    have hLne : Q.1≠[]:=by intro e; rw [e] at hLl; simp at hLl; omega
    have hxw:=hx.weak
    have hxn:=hxw
    rw [← hLl] at hxn
    have hrg:=fun s=>ACalls.weaks (.cons hxn .nil) (right20_calls (Γ:=Γ) hG Q.1 hW s)
    by_cases h1 : rightT Q.1
    ·have hte : treeEnd Q = (if Q.2.2 = 0 then Q.1 else [],Q.2):=by simp only [treeEnd,if_pos h1]
     rw [hte]
     rw [decide_eq_true h1] at hrg
     refine wK fun K hK=>?_
     refine jS @g3 fun K hK=>?_
     refine acallk (hrg _) ?_
     rintro r s5 ⟨rfl,rfl⟩
     refine jR hK ?_;clear hK K
     refine jF ?_
     refine awp_skip ?_
     refine hK _ _ ?_;clear hK K
     refine wK fun K hK=>?_
     refine jS @g0 fun K hK=>?_
     refine acallk (eyeErr_at _ p _ hob) ?_
     rintro r s6 ⟨rfl,rfl⟩
     by_cases he : Q.2.2 = 0
     ·refine jV (eqI he) hK ?_;clear hK K
      refine jF ?_
      refine awp_skip ?_
      refine hK _ _ ?_;clear hK K
      refine jB @g3 ?_
      refine jI ?_
      simp only [if_pos he]
      exact ⟨_,_,treeN_weak hxn hLne,AS.set_le_of hle hob,rfl,rfl⟩
     ·refine jV (neI he) hK ?_;clear hK K
      refine jE ?_
      refine jA ?_
      refine jI ?_
      simp only [if_neg he]
      exact ⟨_,_,AV.weak.refl _,AS.set_le_of hle hob,rfl,rfl⟩
    ·have hte : treeEnd Q = ([],failE 40 Q.2):=by
      simp only [treeEnd,if_neg h1]
      rw [if_neg]
      simp only [failE]
      split
      ·decide
      ·assumption
     rw [hte]
     rw [decide_eq_false h1] at hrg
     have hne : (failE 40 Q.2).2≠0:=by
      simp only [failE]
      split
      ·decide
      ·assumption
     refine wK fun K hK=>?_
     refine jS @g3 fun K hK=>?_
     refine acallk (hrg _) ?_
     rintro r s5 ⟨rfl,rfl⟩
     refine jR hK ?_;clear hK K
     refine jE ?_
     refine jU @g0 fun K hK=>?_
     refine acallk (eyeFail_set _ p _ 40 hob) ?_
     rintro r s6 ⟨rfl,rfl⟩
     rw [show (Q.2.1,if Q.2.2 = 0 then (40 : Int) else Q.2.2) = failE 40 Q.2 from rfl]
     refine jR hK ?_;clear hK K
     simp only [blockQ,thenQ,if_true,if_false]
     refine hK _ _ ?_;clear hK K
     refine wK fun K hK=>?_
     refine jS @g0 fun K hK=>?_
     refine acallk (eyeErr_at _ p _ (AS.set_objs_same _ _ _)) ?_
     rintro r s6 ⟨rfl,rfl⟩
     refine jV (neI hne) hK ?_;clear hK K
     refine jE ?_
     refine jA ?_
     refine jI ?_
     exact ⟨_,_,AV.weak.refl _,AS.set_le_of (AS.le_set hle (AS.drop_self s p) _) (AS.set_objs_same _ _ _),rfl,rfl⟩
 ·have htr : treeRead st = ([],failE 40 q1.2):=by simp only [treeRead,← e1,if_neg hf]
  rw [htr]
  rw [decide_eq_false (fun q=>hf (fitI_nat.1 q))] at hfi
  have hwi : widI (q1.1 : Int) = 0:=by
   unfold widI
   rw [if_neg (fun q=>hf (fitI_nat.1 q))]
  rw [hwi] at hwd
  have hne : (failE 40 q1.2).2≠0:=by
   simp only [failE]
   split
   ·decide
   ·assumption
  have hrg:=fun s=>ACalls.weaks (args:=[.v (.slice none 0 0)]) (.cons (AV.weak_nil (sz:=5)) .nil) (right20_calls (Γ:=Γ) hG [] ⟨by simp,fun n hn=>by cases hn⟩ s)
  rw [decide_eq_false (fun q=>by have:=q.1; revert this; decide)] at hrg
  have hff : failE 40 (failE 40 q1.2) = failE 40 q1.2:=by
   simp only [failE]
   split
   ·rfl
   ·rename_i hq; simp only [if_neg hq]
  refine jA ?_
  refine jA ?_
  refine jK hu8 ?_;rintro s1 rfl
  refine wK fun K hK=>?_
  refine jK (hfi _) ?_;rintro s2 rfl
  refine jE ?_
  refine jT fun K hK=>?_
  refine acallk (eyeFail_set _ p _ 40 (AS.set_objs_same _ _ _)) ?_
  rintro r s6 ⟨rfl,rfl⟩
  rw [show (q1.2.1,if q1.2.2 = 0 then (40 : Int) else q1.2.2) = failE 40 q1.2 from rfl]
  refine jR hK ?_;clear hK K
  simp only [blockQ,thenQ,if_true,if_false]
  refine hK _ _ ?_;clear hK K
  refine wK fun K hK=>?_
  refine jK (hwd _) ?_;rintro s7 rfl
  refine awp_block ?_
  refine awp_loop (fun E s2=>E 14 = .v (.int .i64 0)∧E 13 = .v (.int .i64 0)∧E 3 = .v (.slice none 0 0)∧E 0 = .ptr p 0∧s2.objs p = some (eyeC (failE 40 q1.2))∧(s.drop p).le s2)
   (fun E _=>0) ?_ ?_
  ·exact ⟨by simp only [upd,Nc,↓reduceIte],by simp only [upd,Nc,↓reduceIte],by simp only [upd,Nc,↓reduceIte],by simp only [upd,initE,List.getD_cons_zero,List.getD_cons_succ,Nc,↓reduceIte],AS.set_objs_same _ _ _,hle0 _⟩
  ·rintro E1 s4 ⟨g14,g13,g3,g0,hob,hle⟩ -
   refine jB (Ai @g14 (Ai @g13 (show decide ((0 : Int) < 0) = false from rfl))) ?_
   refine wK fun K2 hK2=>?_
   refine jF ?_
   refine awp_exit ?_
   simp only [thenQ,blockQ,if_true]
   refine hK _ _ ?_;clear hK hK2 K2 K
   refine wK fun K hK=>?_
   refine jS @g3 fun K hK=>?_
   refine acallk (hrg _) ?_
   rintro r s5 ⟨rfl,rfl⟩
   refine jR hK ?_;clear hK K
   refine jE ?_
   refine jU @g0 fun K hK=>?_
   refine acallk (eyeFail_set _ p _ 40 hob) ?_
   rintro r s6 ⟨rfl,rfl⟩
   rw [show ((failE 40 q1.2).1,if (failE 40 q1.2).2 = 0 then (40 : Int) else (failE 40 q1.2).2) = failE 40 (failE 40 q1.2) from rfl,hff]
   refine jR hK ?_;clear hK K
   simp only [blockQ,thenQ,if_true,if_false]
   refine hK _ _ ?_;clear hK K
   refine wK fun K hK=>?_
   refine jS @g0 fun K hK=>?_
   refine acallk (eyeErr_at _ p _ (AS.set_objs_same _ _ _)) ?_
   rintro r s6 ⟨rfl,rfl⟩
   refine jV (neI hne) hK ?_;clear hK K
   refine jE ?_
   refine jA ?_
   refine jI ?_
   exact ⟨_,_,AV.weak.refl _,AS.set_le_of (AS.le_set hle (AS.drop_self s p) _) (AS.set_objs_same _ _ _),rfl,rfl⟩
end Go.Proofs.YtfjlmkifiihgkaaGreatDoor
namespace Go.Proofs.YtfjlmkifiihgkaaGreatDoor
open Go Go.AM Go.Proofs
variable {Γ : Nat→List AV}
theorem refTreeWrite_calls (t : List NodeV) (ht : TreeW t) (h1 : rightT t) (s : AS) :
  ACalls Tryz.prog Γ 118 [treeV t] s (fun r s'=>r = .v (.string ⟨(treeText t).toArray⟩)∧s' = s):=by
 have hlv:=fun s=>refLeaves_calls (Γ:=Γ) t ht.1 s
 have hlvs:=lvs_le t
 have hnu:=fun s=>refNumber_calls (Γ:=Γ) (lvs t) 1 (by omega) (by omega) s
 have hl:=h1.len
 have hat:=fun (i : Nat) (hi : i < t.length)=>node_at hi
 have htt:=fun (i : Nat) (hi : i < t.length)=>nodesText_snoc (t.take i) t[i]
 refine acalls_body Tryz.func118 rfl Tryz.ntmps118 Tryz.results118 (by simp) ?_
 have htx : treeText t = be 1 (lvs t) ++ nodesText t:=rfl
 unfold treeV at *
 generalize hX : rowC NodeV.cells t = X at *
 refine jA ?_
 refine jQ fun K hK=>?_
 refine acallk (hlv _) ?_
 rintro r s1 ⟨rfl,rfl⟩
 simp only [↓DM,pval,DX,Nz,↓DN,Qa,Qb,Qc,Qd,Qe,Qf,Qg,Qh,reduceCtorEq,↓reduceIte,Na,Nb,Nc,Nk,Nf,Ng,Nh,Za,Zb,Zc,TT,u64_conv (show lvs t < 2 ^ 62 by omega)]
 refine acallk (hnu _) ?_
 rintro r s2 ⟨rfl,rfl⟩
 refine jR hK ?_;clear hK K
 refine wK fun K hK=>?_
 refine jA ?_
 refine awp_block ?_
 refine awp_loop (fun E s3=>∃ i : Nat,i≤t.length∧E 4 = .v (.int .i64 i)∧E 0 = .sl 5 t.length X .any∧E 3 = .v (.string ⟨(be 1 (lvs t) ++ nodesText (t.take i)).toArray⟩)∧s3 = s2)
  (fun E _=>match E 4 with | .v (.int _ i)=>t.length - i.toNat | _=>0) ?_ ?_
 ·exact ⟨0,Nat.zero_le _,by simp only [upd,Nc,↓reduceIte]; rfl,by simp only [upd,initE,List.getD_cons_zero,List.getD_cons_succ,Nc,↓reduceIte],by simp [upd,nodesText],rfl⟩
 ·rintro E1 s4 ⟨i,hi,g4,g0,g3,rfl⟩ -
  refine wK fun K2 hK2=>?_
  by_cases hi' : i < t.length
  ·refine jB (Ai @g4 (Ai @g0 (Ai @eye_lt_nat (decide_eq_true hi')))) ?_
   refine jE ?_
   refine awp_skip ?_
   refine hK2 _ _ ?_;clear hK2 K2
   refine wK fun K3 hK3=>?_
   refine awp_block ?_
   have hge : (0 : Int)≤(i : Int):=by omega
   have hat':=hat i hi'
   have hnr:=h1.nd i
   have htt':=htt i hi'
   rw [nd_get hi'] at hnr hat'
   rw [← List.take_succ_eq_append_getElem hi'] at htt'
   generalize t[i] = N at *
   have hnw:=fun s=>refNodeWrite_calls (Γ:=Γ) N hnr s
   have hntl:=NodeV.text_len hnr
   have htl':=nodesText_len (l:=t.take i) (fun n hn=>h1.nodes (List.mem_of_mem_take hn))
   have htk : (t.take i).length≤63:=by rw [List.length_take]; have:=hl.2.le; omega
   generalize N.text = NT at *
   obtain ⟨nk,nm,ny,npa,nu⟩:=N
   unfold NodeV.cells at hat' hnw
   unfold intsV at hat' hnw
   refine jU (Ai @g4 (Ai @g0 (Ai @g3 (Ai @hge (Ai @eye_lt_nat (Ai @hi' @hat')))))) fun K hK=>?_
   refine acallk (hnw _) ?_
   rintro r s5 ⟨rfl,rfl⟩
   refine jV (Ai @g3 (Ai @length_be (i64_room (show 1 + (nodesText (t.take i)).length + NT.length < 2 ^ 62 by omega)))) hK ?_;clear hK K
   simp only [blockQ,thenQ,if_true,if_false]
   refine hK3 _ _ ?_;clear hK3 K3
   refine jD (Ai @g4 (eye_succM i (by omega))) ?_
   refine ⟨⟨i + 1,by omega,by simp only [upd,Nc,↓reduceIte],by simp only [upd,g0,Nc,↓reduceIte],?_,rfl⟩,?_⟩
   ·rw [htt',← List.append_assoc]
    simp only [upd,Nc,↓reduceIte]
    try simp
   ·simp only [g4,upd,↓reduceIte]
    omega
  ·refine jB (Ai @g4 (Ai @g0 (Ai @eye_lt_nat (decide_eq_false hi')))) ?_
   refine jF ?_
   refine awp_exit ?_
   simp only [thenQ,blockQ,if_true]
   refine hK _ _ ?_;clear hK hK2 K2 K
   obtain rfl : i = t.length:=by omega
   rw [List.take_length] at g3
   refine jB @g3 ?_
   refine jI ?_
   rw [htx]
   exact ⟨_,_,AV.weak.refl _,AS.le.refl _,rfl,rfl⟩
end Go.Proofs.YtfjlmkifiihgkaaGreatDoor
namespace Go.Proofs.YtfjlmkifiihgkaaGreatDoor
open Go Go.AM Go.Proofs
variable {Γ : Nat→List AV}
theorem leafOf20_calls (name : List UInt8) (key : Nat) (hn : name.length≤2 ^ 45) (s : AS) : ACalls Tryz.prog Γ 56 [bytesV name .any,.v (.int .u64 key)] s (fun r s'=>r = .agg (leafN name key).cells∧s' = s):=by
 refine acalls_body Tryz.func56 rfl Tryz.ntmps56 Tryz.results56 (by simp) ?_
 have hc:=fun s=>bytesClone_calls (Γ:=Γ) name s hn
 unfold bytesV at *
 refine wS fun K hK=>?_
 simp only [↓DN,Qa,Qb,Qc,Qd,Qe,Qf,Qg,Qh,reduceCtorEq,↓reduceIte,Na,Nb,Nc,Nk,Nf,Ng,Nh,Za,Zb,Zc,TT]
 intro o ho
 refine hK _ _ ?_;clear hK K
 refine wS fun K hK=>?_
 simp only [↓DN,Qa,Qb,Qc,Qd,Qe,Qf,Qg,Qh,reduceCtorEq,↓reduceIte,Na,Nb,Nc,Nk,Nf,Ng,Nh,Za,Zb,Zc,TT]
 refine acallk (hc _) ?_
 rintro r s1 ⟨rfl,rfl⟩
 simp only [↓DM,pval,DX,Nz,↓DN,Qa,Qb,Qc,Qd,Qe,Qf,Qg,Qh,reduceCtorEq,↓reduceIte,Na,Nb,Nc,Nk,Nf,Ng,Nh,Za,Zb,Zc,TT]
 refine hK _ _ ?_;clear hK K
 refine awp_ret ?_
 refine aends_cell (o:=o) (off:=0) (by simp only [upd,Nc,↓reduceIte]) (AS.set_objs_same _ _ _) (by rw [T.c69]; decide) (by simp only [↓DN,Qa,Qb,Qc,Qd,Qe,Qf,Qg,Qh,reduceCtorEq,↓reduceIte,Na,Nb,Nc,Nk,Nf,Ng,Nh,Za,Zb,Zc,TT]; rfl) ?_
 exact ⟨_,s,AV.weak_agg (.cons (AV.weak.refl _) (.cons (AV.weak.refl _) (.cons (AV.weak.refl _) (.cons AV.weak_nil (.cons AV.weak_nil .nil))))),AS.le_set (AS.le.refl s) ho _,rfl,rfl⟩
theorem new20_calls (name : List UInt8) (key : Nat) (hn : name.length≤2 ^ 45) (s : AS) : ACalls Tryz.prog Γ 11 [bytesV name .any,.v (.int .u64 key)] s
  (fun r s'=>r = (if (leafN name key).right then .tup [treeV [leafN name key],.v (.int .i64 0)] else .tup [nilS,.v (.int .i64 2)])∧s' = s):=by
 by_cases h : (leafN name key).right
 ·rw [if_pos h]
  refine acalls_body Tryz.func11 rfl Tryz.ntmps11 Tryz.results11 (by simp) ?_
  have hc:=fun s=>leafOf20_calls (Γ:=Γ) name key hn s
  have hr:=fun s=>nodeRight_calls (Γ:=Γ) (leafN name key) (by simp [leafN]) s
  have hcells : (leafN name key).cells = [.v (.int .i64 1),bytesV name .any,.v (.int .u64 key),bytesV [] .any,intsV [] .any]:=rfl
  have htree : treeV [leafN name key] = .sl 5 1 [.v (.int .i64 1),bytesV name .any,.v (.int .u64 key),bytesV [] .any,intsV [] .any] .any:=rfl
  rw [htree]
  rw [hcells] at hc hr
  generalize leafN name key = N at *
  unfold bytesV intsV at *
  refine jA ?_
  refine awp_reg_frz 6 (by decide) ?_
  intro K hK
  simp only [↓DM,pval,DX,Nz,↓DN,Qa,Qb,Qc,Qd,Qe,Qf,Qg,Qh,reduceCtorEq,↓reduceIte,Na,Nb,Nc,Nk,Nf,Ng,Nh,Za,Zb,Zc,TT]
  refine acallk (hc _) ?_
  rintro r s1 ⟨rfl,rfl⟩
  simp only [↓DM,pval,DX,Nz,↓DN,Qa,Qb,Qc,Qd,Qe,Qf,Qg,Qh,reduceCtorEq,↓reduceIte,Na,Nb,Nc,Nk,Nf,Ng,Nh,Za,Zb,Zc,TT]
  intro o ho
  refine hK _ _ o _ (by simp only [upd,Nc,↓reduceIte]) ho ?_
  clear hK K ho
  refine wK fun K hK=>?_
  refine jQ fun K hK=>?_
  refine acallk (hr _) ?_
  rintro r s2 ⟨rfl,rfl⟩
  rw [decide_eq_true h]
  refine jR hK ?_;clear hK K
  refine jF ?_
  refine awp_skip ?_
  refine hK _ _ ?_;clear hK K
  refine jB @zrow_quin ?_
  refine jI ?_
  exact ⟨_,_,AV.weak_tup2 AV.weak_any (AV.weak.refl _),AS.le.refl _,rfl,rfl⟩
 ·rw [if_neg h]
  refine acalls_body Tryz.func11 rfl Tryz.ntmps11 Tryz.results11 (by simp) ?_
  have hc:=fun s=>leafOf20_calls (Γ:=Γ) name key hn s
  have hr:=fun s=>nodeRight_calls (Γ:=Γ) (leafN name key) (by simp [leafN]) s
  have hcells : (leafN name key).cells = [.v (.int .i64 1),bytesV name .any,.v (.int .u64 key),bytesV [] .any,intsV [] .any]:=rfl
  have htree : treeV [leafN name key] = .sl 5 1 [.v (.int .i64 1),bytesV name .any,.v (.int .u64 key),bytesV [] .any,intsV [] .any] .any:=rfl
  clear htree
  rw [hcells] at hc hr
  generalize leafN name key = N at *
  unfold bytesV intsV at *
  refine jA ?_
  refine awp_reg_frz 6 (by decide) ?_
  intro K hK
  simp only [↓DM,pval,DX,Nz,↓DN,Qa,Qb,Qc,Qd,Qe,Qf,Qg,Qh,reduceCtorEq,↓reduceIte,Na,Nb,Nc,Nk,Nf,Ng,Nh,Za,Zb,Zc,TT]
  refine acallk (hc _) ?_
  rintro r s1 ⟨rfl,rfl⟩
  simp only [↓DM,pval,DX,Nz,↓DN,Qa,Qb,Qc,Qd,Qe,Qf,Qg,Qh,reduceCtorEq,↓reduceIte,Na,Nb,Nc,Nk,Nf,Ng,Nh,Za,Zb,Zc,TT]
  intro o ho
  refine hK _ _ o _ (by simp only [upd,Nc,↓reduceIte]) ho ?_
  clear hK K ho
  refine wK fun K hK=>?_
  refine jQ fun K hK=>?_
  refine acallk (hr _) ?_
  rintro r s2 ⟨rfl,rfl⟩
  rw [decide_eq_false h]
  refine jR hK ?_;clear hK K
  refine jE ?_
  refine jA ?_
  exact jJ
end Go.Proofs.YtfjlmkifiihgkaaGreatDoor
namespace Go.AM
open Go
def goodL (L : Nat) (t : List NodeV) : Prop:=Fit L∧t.length = 2 * L - 1 ∧
    (∀ i,i < 2 * L - 1→(nd t i).right∧((nd t i).kind = 0∨((nd t i).kind = 1↔i % 2 = 0))∧∀ u ∈ (nd t i).unm,(lo i : Int)≤u∧u≤(hi i : Int)∧0≤u∧u < (L : Int)∧(nd t (2 * u.toNat)).kind = 1) ∧
    (∀ a b,a < b→b < L→(nd t (2 * a)).kind = 1→(nd t (2 * b)).kind = 1→(nd t (2 * b)).name≠(nd t (2 * a)).name)
theorem goodL.right {t : List NodeV} {L : Nat} (h : goodL L t) (k : L = 1∨∃ j,L / 2≤j∧j < L∧(nd t (2 * j)).kind = 1) : rightT t :=
  (rightT_iff h.1 h.2.1).2 ⟨h.2.2.1,h.2.2.2,k⟩
theorem goodL.lvs {t : List NodeV} {L : Nat} (h : goodL L t) : lvs t = L:=lvs_of h.1 h.2.1
theorem named_none {t : List NodeV} {name : List UInt8} (h : ¬ 0≤namedI t name 0) {L : Nat} (hL : Fit L) (hlen : t.length = 2 * L - 1) {j : Nat} (hj : j < L) (hk : (nd t (2 * j)).kind = 1) : (nd t (2 * j)).name≠name:=by
  intro e
  have hl:=lvs_of hL hlen
  have hb:=hL.le
  have h1:=firstN_ge (fun j=>decide (memI t j∧(nd t (2 * j)).name = name)) (hlf t - 0) 0
  have h2 : decide (0≤namedI t name 0) = true:=h1.2 ⟨j,Nat.zero_le _,by unfold hlf; omega,decide_eq_true ⟨(memN_iff hl _).2 ⟨hj,hk⟩,e⟩⟩
  exact h (of_decide_eq_true h2)
def keyR (key : Nat) : Prop:=2≤(key : Int)∧(key : Int)≤2305843009213693949
instance (key : Nat) : Decidable (keyR key):=by unfold keyR; infer_instance
end Go.AM
namespace Go.Proofs.YtfjlmkifiihgkaaGreatDoor
open Go Go.AM Go.Proofs
variable {Γ : Nat→List AV}
theorem treeN_ne {t : List NodeV} (h : t.length≠0) : treeN t = treeV t:=if_neg (fun e=>h (by rw [e]; rfl))
end Go.Proofs.YtfjlmkifiihgkaaGreatDoor
namespace Go.AM
open Go Go.RowKit
variable {P : Program} {Γ : Nat→List AV} {s : AS}
theorem Settles.tree {s : AS} {ob cap : Nat} {t : List NodeV} {rest : List AV} (h : s.objs ob = none) : Settles Γ (s.set ob (rowC NodeV.cells t ++ rest)) (.osl ob 0 5 t.length cap) s (treeV t):=by
  refine (Settles.outer (Γ:=Γ) (AS.set_objs_same s ob _) (row_len cells_len t)).trans (Settles.le _ ?_)
  refine ⟨fun o cs hc=>?_,fun t e he=>he⟩
  have hne : o≠ob:=by rintro rfl; rw [h] at hc; cases hc
  rw [AS.drop_objs,upd_ne _ _ hne,AS.set_objs_ne _ hne]
  exact hc
end Go.AM
namespace Go.AM
open Go Go.RowKit
theorem nodes_weak : ∀ k : Nat,AVs.weak (List.replicate k zN).flatten (rowC NodeV.cells (List.replicate k NodeV.nought))
  | 0=>.refl _
  | k + 1=>by
    have e1 : (List.replicate (k + 1) zN).flatten = zN ++ (List.replicate k zN).flatten:=by rw [List.replicate_succ,List.flatten_cons]
    have e2 : rowC NodeV.cells (List.replicate (k + 1) NodeV.nought) = NodeV.nought.cells ++ rowC NodeV.cells (List.replicate k NodeV.nought):=by rw [List.replicate_succ]; rfl
    rw [e1,e2]
    exact AVs.weak.append (.cons (AV.weak.refl _) (.cons AV.weak_nil (.cons (AV.weak.refl _) (.cons AV.weak_nil (.cons AV.weak_nil .nil))))) (nodes_weak k)
theorem Settles.tells {Γ : Nat→List AV} {s s' : AS} (x : AV) (h : AS.tells Γ s s') : Settles Γ s x s' x:=fun G w _ hs hv=>⟨G,.refl G,h G w hs,hv⟩
theorem Settles.more {Γ : Nat→List AV} {s : AS} {ob ob' cap cap' m k : Nat} {A rest' : List AV} {t : List NodeV} (h : s.objs ob = none) (h' : (s.set ob A).objs ob' = none∨∃ c0,AV.osl ob 0 5 m cap = .osl ob' 0 5 m c0) :
    Settles Γ ((s.set ob A).set ob' (rowC NodeV.cells t ++ zrow (k * 5) zN ++ rest')) (.osl ob' 0 5 (t.length + k) cap') s (treeV (t ++ List.replicate k NodeV.nought)):=by
  have e : rowC NodeV.cells (t ++ List.replicate k NodeV.nought) = rowC NodeV.cells t ++ rowC NodeV.cells (List.replicate k NodeV.nought):=by simp only [rowC,List.map_append,List.flatten_append]
  have hl : (t ++ List.replicate k NodeV.nought).length = t.length + k:=by simp
  have hw : AVs.weak (rowC NodeV.cells t ++ zrow (k * 5) zN ++ rest') (rowC NodeV.cells (t ++ List.replicate k NodeV.nought) ++ rest'):=by
    rw [e,zrow_zN]
    exact AVs.weak.append (AVs.weak.append (.refl _) (nodes_weak k)) (.refl _)
  refine (Settles.tells _ (AS.tells_set hw)).trans ?_
  have h2:=Settles.outer (Γ:=Γ) (sz:=5) (n:=t.length + k) (cap:=cap') (AS.set_objs_same (s.set ob A) ob' (rowC NodeV.cells (t ++ List.replicate k NodeV.nought) ++ rest')) (by rw [row_len cells_len,hl])
  have h3 : treeV (t ++ List.replicate k NodeV.nought) = .sl 5 (t.length + k) (rowC NodeV.cells (t ++ List.replicate k NodeV.nought)) .any:=by unfold treeV; rw [hl]
  rw [h3]
  refine h2.trans (Settles.le _ ⟨fun o cs hc=>?_,fun t e he=>he⟩)
  have hne : o≠ob:=by rintro rfl; rw [h] at hc; cases hc
  have hne' : o≠ob':=by
    rintro rfl
    rcases h' with h' | ⟨c0,h'⟩
    · rw [AS.set_objs_ne _ hne,hc] at h'; cases h'
    · injection h' with q; exact hne q.symm
  rw [AS.drop_objs,upd_ne _ _ hne',AS.set_objs_ne _ hne',AS.set_objs_ne _ hne]
  exact hc
end Go.AM
namespace Go.Proofs.YtfjlmkifiihgkaaGreatDoor
open Go Go.AM Go.Proofs
variable {Γ : Nat→List AV}
instance (t : List NodeV) : Decidable (TreeW t):=by unfold TreeW; infer_instance
def smallN (n : NodeV) : Prop:=n.name.length≤40∧n.parent.length≤60∧n.unm.length≤40
def smallT (t : List NodeV) : Prop:=t.length≤63∧∀ n ∈ t,smallN n
instance (n : NodeV) : Decidable (smallN n):=by unfold smallN; infer_instance
instance (t : List NodeV) : Decidable (smallT t):=by unfold smallT; infer_instance
end Go.Proofs.YtfjlmkifiihgkaaGreatDoor
namespace Go.AM
open Go
theorem IsTy.tree {avs : List AV} (h : IsTy (.slice 5 (.struct (.cons tyI (.cons tyB (.cons (.int .u64) (.cons tyB (.cons (.slice 1 tyI) .nil))))))) avs) : ∃ t : List NodeV,avs = [treeV t]∧∀ n ∈ t,n.key < 2 ^ 64:=by
  obtain ⟨els,rfl,_,hall⟩:=IsTy.rows h
  have key : ∀ els : List (List AV),(∀ el ∈ els,el.length = 5∧IsTy (.struct (.cons tyI (.cons tyB (.cons (.int .u64) (.cons tyB (.cons (.slice 1 tyI) .nil)))))) el)→∃ t : List NodeV,els = t.map NodeV.cells∧∀ n ∈ t,n.key < 2 ^ 64:=by
    intro els
    induction els with
    | nil=>intro _; exact ⟨[],rfl,fun n hn=>by cases hn⟩
    | cons e els ih =>
      intro h
      obtain ⟨t,rfl,h2⟩:=ih (fun el hel=>h el (by simp [hel]))
      obtain ⟨_,h1⟩:=h e (by simp)
      obtain ⟨N,rfl,hN⟩:=IsTy.node h1
      refine ⟨N :: t,rfl,fun n hn=>?_⟩
      rcases List.mem_cons.1 hn with rfl | hn
      · exact hN
      · exact h2 n hn
  obtain ⟨t,rfl,h2⟩:=key els hall
  refine ⟨t,?_,h2⟩
  unfold treeV rowC
  rw [List.length_map]
end Go.AM
namespace Go.AM
open Go
def txt (k : Nat) (l : List UInt8) : List UInt8:=be k l.length ++ l
def PropV.body (p : PropV) : List UInt8:=if p.kind = 1 then txt 1 p.name ++ (be 8 p.key ++ be 8 p.init) else if p.kind = 2 then be 1 p.leaf.toNat ++ be 8 p.key else be 1 p.leaf.toNat
def PropV.text (p : PropV) : List UInt8:=be 1 p.kind.toNat ++ p.body
def SealV.wtext (x : SealV) : List UInt8:=be 8 x.frm ++ txt 2 x.text
def flatT {α : Type} (f : α→List UInt8) (l : List α) : List UInt8:=(l.map f).flatten
def StepV.text (x : StepV) : List UInt8:=be 8 x.key ++ (be 1 x.seals.length ++ flatT SealV.wtext x.seals)
def PathV.text (x : PathV) : List UInt8:=be 8 x.key ++ (txt 1 x.parent ++ (be 1 x.steps.length ++ flatT StepV.text x.steps))
def CommitV.tail (c : CommitV) : List UInt8:=if c.hasPath then be 1 1 ++ c.path.text else be 1 0
def CommitV.content (c : CommitV) : List UInt8 :=
  be 1 1 ++ (txt 1 c.group ++ (be 8 c.epoch.toNat ++ (be 1 c.sender.toNat ++ (be 1 c.props.length ++ (flatT PropV.text c.props ++ c.tail)))))
def CommitV.text (c : CommitV) : List UInt8:=c.content ++ (txt 1 c.confirm ++ txt 1 c.member)
theorem flatT_take {α : Type} (f : α→List UInt8) {l : List α} {i : Nat} (h : i < l.length) : flatT f (l.take (i + 1)) = flatT f (l.take i) ++ f l[i]:=by
  unfold flatT
  rw [List.take_succ_eq_append_getElem h,List.map_append,List.flatten_append]
  simp only [List.map_cons,List.map_nil,List.flatten_cons,List.flatten_nil,List.append_nil]
theorem flatT_len {α : Type} {f : α→List UInt8} {n : Nat} : ∀ {l : List α},(∀ x ∈ l,(f x).length≤n)→(flatT f l).length≤l.length * n
  | [],_=>by simp [flatT]
  | a :: l,h=>by
    have ih:=flatT_len (l:=l) fun x hx=>h x (by simp [hx])
    have h1:=h a (by simp)
    have : flatT f (a :: l) = f a ++ flatT f l:=rfl
    rw [this,List.length_append,List.length_cons,Nat.succ_mul]
    omega
theorem txt_len (k : Nat) (l : List UInt8) : (txt k l).length = k + l.length:=by simp [txt]
theorem SealV.wtext_len {x : SealV} (h : x.right) : x.wtext.length≤58:=by
  have:=h.2
  simp [SealV.wtext,txt_len]; omega
theorem StepV.text_len {x : StepV} (h : x.right) : x.text.length≤1865:=by
  have h1:=flatT_len (f:=SealV.wtext) (n:=58) fun y hy=>SealV.wtext_len (h.1 y hy)
  have h2:=h.2.2
  have h3 : x.seals.length * 58≤32 * 58:=Nat.mul_le_mul_right _ h2
  simp [StepV.text]; omega
theorem PathV.text_len {x : PathV} (h : x.right) : x.text.length≤9400:=by
  have h1:=flatT_len (f:=StepV.text) (n:=1865) fun y hy=>StepV.text_len (h.1 y hy)
  have h2:=h.2.2.2
  have h4:=h.2.2.1
  have h3 : x.steps.length * 1865≤5 * 1865:=Nat.mul_le_mul_right _ h2
  simp [PathV.text,txt_len]; omega
theorem PropV.text_len {x : PropV} (h : x.right) : x.text.length≤40:=by
  unfold PropV.text PropV.body
  rcases h with ⟨h1,h2,h3,h4,_⟩ | ⟨h1,h2,h3,h4,_⟩ | ⟨h1,h2,h3,h4,_⟩
  · rw [if_pos h1]; simp [txt_len]; omega
  · rw [if_neg (by omega),if_pos h1]; simp
  · rw [if_neg (by omega),if_neg (by omega)]; simp
theorem CommitV.content_len {c : CommitV} (h : c.right) : c.content.length≤12000:=by
  obtain ⟨h1,h2,h3,h4,h5,h6,h7,h8⟩:=h
  have q1:=flatT_len (f:=PropV.text) (n:=40) fun y hy=>PropV.text_len (h1 y hy)
  have q2 : c.props.length * 40≤16 * 40:=Nat.mul_le_mul_right _ h5
  have q3 : c.tail.length≤9401:=by
    unfold CommitV.tail
    split
    · rename_i hp
      have:=PathV.text_len (h6.1 hp)
      simp; omega
    · simp
  simp [CommitV.content,txt_len]; omega
theorem CommitV.text_len {c : CommitV} (h : c.right) : c.text.length≤13000:=by
  have h1:=CommitV.content_len h
  have h7:=h.2.2.2.2.2.2
  simp [CommitV.text,txt_len]; omega
end Go.AM
namespace Go.AM
open Go
theorem IsTy.record {avs : List AV} (h : IsTy (.struct (.cons tyI (.cons tyB (.cons tyI (.cons tyI (.cons tyI (.cons tyB (.cons tyB (.cons tyB (.cons tyB .nil)))))))))) avs) : ∃ R : Rec,avs = R.cells:=by
  obtain ⟨x1,y1,rfl,t1,h⟩:=isF_cons (isTy_struct h)
  obtain ⟨x2,y2,rfl,t2,h⟩:=isF_cons h
  obtain ⟨x3,y3,rfl,t3,h⟩:=isF_cons h
  obtain ⟨x4,y4,rfl,t4,h⟩:=isF_cons h
  obtain ⟨x5,y5,rfl,t5,h⟩:=isF_cons h
  obtain ⟨x6,y6,rfl,t6,h⟩:=isF_cons h
  obtain ⟨x7,y7,rfl,t7,h⟩:=isF_cons h
  obtain ⟨x8,y8,rfl,t8,h⟩:=isF_cons h
  obtain ⟨x9,y9,rfl,t9,h⟩:=isF_cons h
  obtain rfl:=isF_nil h
  obtain ⟨n1,rfl,_⟩:=isTy_int t1
  obtain ⟨l2,rfl,_⟩:=t2.bytes
  obtain ⟨n3,rfl,_⟩:=isTy_int t3
  obtain ⟨n4,rfl,_⟩:=isTy_int t4
  obtain ⟨n5,rfl,_⟩:=isTy_int t5
  obtain ⟨l6,rfl,_⟩:=t6.bytes
  obtain ⟨l7,rfl,_⟩:=t7.bytes
  obtain ⟨l8,rfl,_⟩:=t8.bytes
  obtain ⟨l9,rfl,_⟩:=t9.bytes
  exact ⟨⟨n1,l2,n3,n4,n5,l6,l7,l8,l9⟩,rfl⟩
end Go.AM
namespace Go.AM
namespace Kdf
variable (secret info : List UInt8)
def blk : Nat→List UInt8
  | 0=>[]
  | i + 1=>Mac.tag secret (blk i ++ info ++ [UInt8.ofNat (i + 1)])
def row : Nat→List UInt8
  | 0=>[]
  | i + 1=>row i ++ blk secret info (i + 1)
theorem blk_len (i : Nat) : (blk secret info (i + 1)).length = 32:=Mac.tag_len _ _
theorem row_len : ∀ i : Nat,(row secret info i).length = 32 * i
  | 0=>rfl
  | i + 1=>by rw [row,List.length_append,row_len i,blk_len]; omega
def rounds (n : Nat) : Nat:=(n + 31) / 32
def expand (n : Nat) : List UInt8:=(row secret info (rounds n)).take n
def ok (n : Int) : Bool:=decide (0≤n) && decide (n≤8160)
def get (n : Int) : List UInt8:=if ok n = true then expand secret info n.toNat else []
end Kdf
end Go.AM
namespace Go.AM
namespace Kdf
def mls : List UInt8:=[109,108,115,32]
def fits (l c : List UInt8) (n : Int) : Bool:=decide (l.length≤251) && decide (c.length≤65535) && decide (0≤n) && decide (n≤8160)
def text (l c : List UInt8) (n : Nat) : List UInt8:=be 2 n ++ (be 1 (mls ++ l).length ++ (mls ++ l)) ++ (be 2 c.length ++ c)
def label (secret l c : List UInt8) (n : Int) : List UInt8:=if fits l c n = true then expand secret (text l c n.toNat) n.toNat else []
def derive (secret l : List UInt8) : List UInt8:=label secret (l.take 251) [] 32
def pen (l c : List UInt8) (n : Int) : List UInt8 × Bool:=penText 2 c (penText 1 (mls ++ l) (penSmall 2 n ([],false)))
theorem text_len (k : Nat) (m : List UInt8) (st : List UInt8 × Bool) : (penText k m st).1.length≤st.1.length + k + m.length:=by
  have:=penSmall_len k (m.length : Int) st
  unfold penText penRaw
  split
  · omega
  · simp only [List.length_append]
    omega
end Kdf
end Go.AM
