/- Contracts of the program's functions, each walked once; the conditions stand in each theorem. -/
import Derived.Test.YtfjlmkifiihgkaaGreatDoorAMp6
import Derived.Test.YtfjlmkifiihgkaaGreatDoorW1
import Derived.Test.YtfjlmkifiihgkaaGreatDoorW5
import Derived.Test.YtfjlmkifiihgkaaGreatDoorW4
import Derived.Test.YtfjlmkifiihgkaaGreatDoorW2
import Derived.Test.YtfjlmkifiihgkaaGreatDoorAMp5
set_option linter.unusedSimpArgs false
set_option linter.unusedVariables false
open Nat renaming reduceLT → Na, reduceLeDiff → Nb, reduceEqDiff → Nc, reduceAdd → Nk, reduceMul → Nf, reducePow → Ng, reduceSub → Nh, reduceBEq → Nz
open Int renaming reduceLT → Za, reduceLE → Zb, reduceToNat → Zc
open And renaming intro → Ai
open Go.AM renaming ashift → Qa, aconv → Qb, aindexAddr → Qc, aindex → Qd, aslice → Qe, abuiltin → Qf, awp_reg_seq → wS, awp_reg_end → wE, awp_seq_k → wK, awp_cond_k → wC
open Go.AM.AV renaming cells → Qg, one → Qh
set_option maxRecDepth 100000
set_option maxHeartbeats 8000000
set_option autoImplicit false
namespace Go.Proofs.YtfjlmkifiihgkaaGreatDoor
open Go Go.AM Go.Proofs
variable {Γ : Nat→List AV}
theorem treeWrite_calls (hG : Γ 3 = dB64.map u8C) (t : List NodeV) (ht : TreeW t) (s0 s : AS) (p : Nat) (st : List UInt8 × Bool) (hst : st.1.length + 8000≤2 ^ 45) (h : PenS s0 s p st) :
  ACalls Tryz.prog Γ 112 [.ptr p 0,treeV t] s (fun r s'=>r = .tup []∧PenS s0 s' p (treePen t st)):=by
 have hr:=fun s=>right20_calls (Γ:=Γ) hG t ht s
 have hlv:=fun s=>leaves_calls (Γ:=Γ) t ht.1 s
 have hlen : ∀ a,(penRaw a st).1.length≤st.1.length + a.length:=fun a=>penRaw_len a st
 refine acalls_body Tryz.func112 rfl Tryz.ntmps112 Tryz.results112 (by simp) ?_
 by_cases h1 : rightT t
 ·have hpen : treePen t st = penRaw (treeText t) st:=if_pos h1
  have hlvs:=lvs_le t
  have hl:=h1.len
  have hat:=fun (i : Nat) (hi : i < t.length)=>node_at hi
  have htt:=fun (i : Nat) (hi : i < t.length)=>nodesText_snoc (t.take i) t[i]
  have htl:=fun (i : Nat)=>nodesText_len (l:=t.take i) (fun n hn=>h1.nodes (List.mem_of_mem_take hn))
  rw [hpen]
  rw [decide_eq_true h1] at hr
  unfold treeV at *
  generalize hX : rowC NodeV.cells t = X at *
  refine wK fun K hK=>?_
  refine jK (hr _) ?_;rintro s1 rfl
  refine jF ?_
  refine awp_skip ?_
  refine hK _ _ ?_;clear hK K
  refine jQ fun K hK=>?_
  refine acallk (hlv _) ?_
  rintro r s2 ⟨rfl,rfl⟩
  simp only [↓DM,pval,DX,Nz,↓DN,Qa,Qb,Qc,Qd,Qe,Qf,Qg,Qh,reduceCtorEq,↓reduceIte,Na,Nb,Nc,Nk,Nf,Ng,Nh,Za,Zb,Zc,TT]
  refine acallk (penU8_calls s0 s2 p st ((lvs t : Nat) : Int) (by omega) (by omega) h) ?_
  rintro r s3 ⟨rfl,q1⟩
  rw [penSmall_raw (by omega)] at q1
  refine jR hK ?_;clear hK K
  refine jA ?_
  refine awp_block ?_
  refine awp_loop (fun E s2=>∃ i : Nat,i≤t.length∧E 17 = .v (.int .i64 i)∧E 16 = .v (.int .i64 t.length)∧E 15 = .sl 5 t.length X .any∧E 0 = .ptr p 0∧PenS s0 s2 p (penRaw (be 1 (lvs t) ++ nodesText (t.take i)) st))
   (fun E _=>match E 17 with | .v (.int _ i)=>t.length - i.toNat | _=>0) ?_ ?_
  ·exact ⟨0,Nat.zero_le _,by simp only [upd,Nc,↓reduceIte]; rfl,by simp only [upd,Nc,↓reduceIte],by simp only [upd,Nc,↓reduceIte],by simp only [upd,initE,List.getD_cons_zero,List.getD_cons_succ,Nc,↓reduceIte],by simpa [nodesText] using q1⟩
  ·clear q1 h
   rintro E1 s4 ⟨i,hi,g17,g16,g15,g0,q⟩ -
   by_cases hi' : i < t.length
   ·refine jB (Ai @g17 (Ai @g16 (Ai @eye_lt_nat (decide_eq_true hi')))) ?_
    refine wK fun K2 hK2=>?_
    refine jE ?_
    refine awp_skip ?_
    refine hK2 _ _ ?_;clear hK2 K2
    refine wK fun K3 hK3=>?_
    refine awp_block ?_
    have hge : (0 : Int)≤(i : Int):=by omega
    have hat':=hat i hi'
    have hnr:=h1.nd i
    have htt':=htt i hi'
    have htl':=htl i
    rw [nd_get hi'] at hnr hat'
    rw [← List.take_succ_eq_append_getElem hi'] at htt'
    have htk : (t.take i).length≤63:=by rw [List.length_take]; have:=hl.2.le; omega
    generalize t[i] = N at *
    have hnp:=fun (st : List UInt8 × Bool) (hst) (s : AS) (h : PenS s0 s p st)=>nodeWrite_calls (Γ:=Γ) N (by have:=right_unm hnr; omega) s0 s p st hst h
    have hN : ∀ st,nodePen N st = penRaw N.text st:=fun st=>if_pos hnr
    obtain ⟨nk,nm,ny,npa,nu⟩:=N
    unfold NodeV.cells at hat' hnp
    unfold intsV at hat' hnp
    refine awp_reg_frz 5 (by decide) ?_
    intro K hK
    simp only [↓DM,pval,DX,Nz,↓DN,Qa,Qb,Qc,Qd,Qe,Qf,Qg,Qh,reduceCtorEq,↓reduceIte,Na,Nb,Nc,Nk,Nf,Ng,Nh,Za,Zb,Zc,TT,g17,g15,hge,eye_lt_nat,hi',hat']
    intro o1 h1'
    refine hK _ _ o1 _ (by simp only [upd,Nc,↓reduceIte]) h1' ?_
    clear hK K h1'
    refine jU @g0 fun K hK=>?_
    refine acallk (hnp _ (by refine Nat.le_trans (Nat.add_le_add_right (hlen _) _) ?_; simp; omega) _ q) ?_
    rintro r s7 ⟨rfl,q7⟩
    rw [hN,penRaw_raw,List.append_assoc,← htt'] at q7
    refine jR hK ?_;clear hK K
    simp only [blockQ,thenQ,if_true,if_false]
    refine hK3 _ _ ?_;clear hK3 K3
    refine jD (Ai @g17 (eye_succM i (by omega))) ?_
    refine ⟨⟨i + 1,by omega,by simp only [upd,Nc,↓reduceIte],by simp only [upd,g16,Nc,↓reduceIte],by simp only [upd,g15,Nc,↓reduceIte],by simp only [upd,g0,Nc,↓reduceIte],q7⟩,?_⟩
    simp only [g17,upd,↓reduceIte]
    omega
   ·refine jB (Ai @g17 (Ai @g16 (Ai @eye_lt_nat (decide_eq_false hi')))) ?_
    refine wK fun K2 hK2=>?_
    refine jF ?_
    refine awp_exit ?_
    simp only [thenQ,blockQ,if_true]
    simp only [retQ,AEnds,aresL,ares,List.toList_toArray,↓upd_same]; try simp only [UP,DF,Nc,↓reduceIte,DT]
    obtain rfl : i = t.length:=by omega
    rw [List.take_length] at q
    exact ⟨_,_,AV.weak.refl _,AS.le.refl _,rfl,q⟩
 ·have hpen : treePen t st = penSmall 1 (-1) st:=(if_neg h1).trans (if_neg (by omega)).symm
  rw [hpen]
  rw [decide_eq_false h1] at hr
  unfold treeV at *
  generalize hX : rowC NodeV.cells t = X at *
  refine wK fun K hK=>?_
  refine jK (hr _) ?_;rintro s1 rfl
  refine jE ?_
  refine jQ fun K hK=>?_
  refine acallk (penU8_calls s0 s1 p st (-1) (by omega) (by omega) h) ?_
  rintro r s2 ⟨rfl,q1⟩
  refine jR hK ?_;clear hK K
  refine jI ?_
  exact ⟨_,_,AV.weak.refl _,AS.le.refl _,rfl,q1⟩
end Go.Proofs.YtfjlmkifiihgkaaGreatDoor
namespace Go.Proofs.YtfjlmkifiihgkaaGreatDoor
open Go Go.AM Go.Proofs
variable {Γ : Nat→List AV}
theorem refLeaves_calls (t : List NodeV) (ht : t.length≤2 ^ 61) (s : AS) : ACalls Tryz.prog Γ 65 [treeV t] s (fun r s'=>r = .v (.int .i64 (lvs t))∧s' = s):=by
 refine acalls_body Tryz.func65 rfl Tryz.ntmps65 Tryz.results65 (by simp) ?_
 unfold treeV
 generalize rowC NodeV.cells t = X at *
 refine jA ?_
 refine wK fun K hK=>?_
 refine jA ?_
 refine awp_block ?_
 refine awp_loop (fun E s2=>∃ j : Nat,j≤6∧(∀ k,k < j→t.length≠2 * 2 ^ k - 1)∧E 3 = .v (.int .i64 ((2 ^ j : Nat) : Int))∧E 0 = .sl 5 t.length X .any∧s2 = s)
  (fun E _=>match E 3 with | .v (.int _ i)=>100 - i.toNat | _=>0) ?_ ?_
 ·exact ⟨0,by omega,fun k h=>absurd h (Nat.not_lt_zero _),by simp only [upd,Nc,↓reduceIte]; rfl,by simp only [upd,initE,List.getD_cons_zero,List.getD_cons_succ,Nc,↓reduceIte],rfl⟩
 ·rintro E1 s2 ⟨j,hj,hall,g3,g0,rfl⟩ -
  refine wK fun K2 hK2=>?_
  by_cases hj' : j≤5
  ·have hp:=pow_le5 hj'
   have e1 : imul .i64 2 ((2 ^ j : Nat) : Int) = ((2 * 2 ^ j : Nat) : Int):=imul2_nat _ (by omega)
   have e2 : isub .i64 ((2 * 2 ^ j : Nat) : Int) 1 = ((2 * 2 ^ j - 1 : Nat) : Int):=by rw [isub_i64 (by omega)]; omega
   have e3 : imul .i64 ((2 ^ j : Nat) : Int) 2 = ((2 ^ (j + 1) : Nat) : Int):=by rw [imul_i64 (by omega),Nat.pow_succ]; omega
   have h1 : decide (((2 ^ j : Nat) : Int)≤32) = true:=decide_eq_true (by omega)
   generalize hP : 2 ^ j = P at *
   refine jB (Ai @g3 @h1) ?_
   refine jE ?_
   refine awp_skip ?_
   refine hK2 _ _ ?_;clear hK2 K2
   refine wK fun K3 hK3=>?_
   refine awp_block ?_
   by_cases he : t.length = 2 * P - 1
   ·refine jB (Ai @g0 (Ai @g3 (Ai @e1 (Ai @e2 (natN he))))) ?_
    refine jE ?_
    refine jB @g3 ?_
    refine jI ?_
    rw [lvs_of (by rw [← hP]; exact fit_pow hj') he]
    exact ⟨_,_,AV.weak.refl _,AS.le.refl _,rfl,rfl⟩
   ·refine jB (Ai @g0 (Ai @g3 (Ai @e1 (Ai @e2 (natF he))))) ?_
    refine jF ?_
    refine awp_skip ?_
    simp only [blockQ,thenQ,if_true,if_false]
    refine hK3 _ _ ?_;clear hK3 K3
    refine jD (Ai @g3 @e3) ?_
    refine ⟨⟨j + 1,by omega,?_,by simp only [upd,Nc,↓reduceIte],by simp only [upd,g0,Nc,↓reduceIte],rfl⟩,?_⟩
    ·intro k hk
     by_cases e : k = j
     ·rw [e,hP]; exact he
     ·exact hall k (by omega)
    ·have : P < 2 ^ (j + 1):=by rw [Nat.pow_succ,hP]; omega
     simp only [g3,upd,↓reduceIte]
     omega
  ·obtain rfl : j = 6:=by omega
   have h1 : decide (((2 ^ 6 : Nat) : Int)≤32) = false:=by decide
   refine jB (Ai @g3 @h1) ?_
   refine jF ?_
   refine awp_exit ?_
   simp only [thenQ,blockQ,if_true]
   refine hK _ _ ?_;clear hK hK2 K2 K
   refine jA ?_
   refine jI ?_
   rw [lvs_none (t:=t) (fun n hn=>by obtain ⟨m,hm,rfl⟩:=hn.pow; exact hall m (by omega))]
   exact ⟨_,_,AV.weak.refl _,AS.le.refl _,rfl,rfl⟩
theorem refMember_calls (t : List NodeV) (ht : t.length≤2 ^ 61) (i : Int) (s : AS) : ACalls Tryz.prog Γ 74 [treeV t,.v (.int .i64 i)] s (fun r s'=>r = .v (.bool (decide (memR t i)))∧s' = s):=by
 refine acalls_body Tryz.func74 rfl Tryz.ntmps74 Tryz.results74 (by simp) ?_
 have hat:=fun i (h : i < t.length)=>node_at (t:=t) h
 unfold treeV
 generalize rowC NodeV.cells t = X at *
 have hno : ¬ memR t i→decide (memR t i) = false:=fun h=>decide_eq_false h
 refine jA ?_
 by_cases h0 : 0≤i
 ·obtain ⟨n,rfl⟩:=Int.eq_ofNat_of_zero_le h0
  by_cases h1 : n < t.length
  ·have e1:=imul2_nat n (by omega)
   by_cases h2 : 2 * n < t.length
   ·have hat':=hat (2 * n) h2
    have hk : decide (memR t (n : Int)) = ((nd t (2 * n)).kind == 1):=by
     rw [Bool.eq_iff_iff,decide_eq_true_iff,beq_iff_eq]
     unfold memR
     rw [Int.toNat_natCast]
     exact ⟨fun k=>k.2.2,fun k=>⟨h0,by omega,k⟩⟩
    generalize nd t (2 * n) = N at *
    obtain ⟨k,nm,y,pa,u⟩:=N
    unfold NodeV.cells at hat'
    have hge : (0 : Int)≤((2 * n : Nat) : Int):=by omega
    refine jB (Ai (decide_eq_true h0) (Ai @eye_lt_nat (Ai (decide_eq_true h1) (Ai (decide_eq_true h2) (Ai @e1 (Ai @h2 (Ai @hge @hat'))))))) ?_
    refine jI ?_
    rw [hk]
    exact ⟨_,_,AV.weak.refl _,AS.le.refl _,rfl,rfl⟩
   ·refine jB (Ai (decide_eq_true h0) (Ai @eye_lt_nat (Ai (decide_eq_true h1) (Ai (decide_eq_false h2) @e1)))) ?_
    refine jI ?_
    rw [hno (fun k=>by have:=k.2.1; omega)]
    exact ⟨_,_,AV.weak.refl _,AS.le.refl _,rfl,rfl⟩
  ·refine jB (Ai (decide_eq_true h0) (Ai @eye_lt_nat (decide_eq_false h1))) ?_
   refine jI ?_
   rw [hno (fun k=>by have:=k.2.1; omega)]
   exact ⟨_,_,AV.weak.refl _,AS.le.refl _,rfl,rfl⟩
 ·refine jB (decide_eq_false h0) ?_
  refine jI ?_
  rw [hno (fun k=>h0 k.1)]
  exact ⟨_,_,AV.weak.refl _,AS.le.refl _,rfl,rfl⟩
end Go.Proofs.YtfjlmkifiihgkaaGreatDoor
namespace Go.Proofs.YtfjlmkifiihgkaaGreatDoor
open Go Go.AM Go.Proofs
variable {Γ : Nat→List AV}
theorem strEq {a b : List UInt8} (h : a = b) : (a == b) = true:=by simpa using h
theorem strNe {a b : List UInt8} (h : a≠b) : (a == b) = false:=by simpa using h
theorem refCount_calls (t : List NodeV) (ht : t.length≤2 ^ 61) (a k : Nat) (hak : a + k < 2 ^ 61) (s : AS) : ACalls Tryz.prog Γ 75 [treeV t,.v (.int .i64 a),.v (.int .i64 (((a + k : Nat) : Int) - 1))] s (fun r s'=>r = .v (.int .i64 (cntN (memR t) a k))∧s' = s):=by
 refine acalls_body Tryz.func75 rfl Tryz.ntmps75 Tryz.results75 (by simp) ?_
 have hm:=fun i s=>refMember_calls (Γ:=Γ) t ht i s
 unfold treeV at hm ⊢
 generalize rowC NodeV.cells t = X at *
 refine jA ?_
 refine jA ?_
 refine wK fun K hK=>?_
 refine jA ?_
 refine awp_block ?_
 refine awp_loop (fun E s2=>∃ i : Nat,i≤k∧E 8 = .v (.int .i64 ((a + i : Nat) : Int))∧E 7 = .v (.int .i64 (cntN (memR t) a i))∧E 0 = .sl 5 t.length X .any∧E 2 = .v (.int .i64 (((a + k : Nat) : Int) - 1))∧s2 = s)
  (fun E _=>match E 8 with | .v (.int _ i)=>a + k - i.toNat | _=>0) ?_ ?_
 ·exact ⟨0,Nat.zero_le _,by simp only [upd,Nc,↓reduceIte]; rfl,by simp only [upd,Nc,↓reduceIte]; rfl,by simp only [upd,initE,List.getD_cons_zero,List.getD_cons_succ,Nc,↓reduceIte],by simp only [upd,initE,List.getD_cons_zero,List.getD_cons_succ,Nc,↓reduceIte],rfl⟩
 ·rintro E1 s2 ⟨i,hi,g8,g7,g0,g2,rfl⟩ -
  refine wK fun K2 hK2=>?_
  by_cases hi' : i < k
  ·have h1 : decide (((a + i : Nat) : Int)≤((a + k : Nat) : Int) - 1) = true:=decide_eq_true (by omega)
   refine jB (Ai @g8 (Ai @g2 @h1)) ?_
   refine jE ?_
   refine awp_skip ?_
   refine hK2 _ _ ?_;clear hK2 K2
   refine wK fun K3 hK3=>?_
   refine awp_block ?_
   have hend : ∀ (E : Env),E 8 = .v (.int .i64 ((a + i : Nat) : Int))→E 7 = .v (.int .i64 (cntN (memR t) a (i + 1)))→E 0 = .sl 5 t.length X .any→E 2 = .v (.int .i64 (((a + k : Nat) : Int) - 1))→K3 E s2:=by
    intro E f8 f7 f0 f2
    refine hK3 _ _ ?_;clear hK3 K3
    refine jD (Ai @f8 (eye_succM (a + i) (by omega))) ?_
    refine ⟨⟨i + 1,hi',by simp only [upd,Nc,↓reduceIte]; rfl,by simp only [upd,f7,Nc,↓reduceIte],by simp only [upd,f0,Nc,↓reduceIte],by simp only [upd,f2,Nc,↓reduceIte],rfl⟩,?_⟩
    simp only [g8,upd,↓reduceIte]
    omega
   clear hK3
   refine jS (Ai @g0 @g8) fun K hK=>?_
   refine acallk (hm _ _) ?_
   rintro r s3 ⟨rfl,rfl⟩
   have hc:=cntN_le (memR t) a i
   by_cases hp : memR t ((a + i : Nat) : Int)
   ·rw [decide_eq_true hp]
    refine jR hK ?_;clear hK K
    refine jE ?_
    refine jD (Ai @g7 (eye_succM (cntN (memR t) a i) (by omega))) ?_
    refine hend _ (by simp only [upd,g8,Nc,↓reduceIte]) ?_ (by simp only [upd,g0,Nc,↓reduceIte]) (by simp only [upd,g2,Nc,↓reduceIte])
    have : cntN (memR t) a (i + 1) = cntN (memR t) a i + 1:=by simp only [cntN]; rw [if_pos hp]
    rw [this]
    simp only [upd,Nc,↓reduceIte]
   ·rw [decide_eq_false hp]
    refine jR hK ?_;clear hK K
    refine jF ?_
    refine awp_skip ?_
    refine hend _ (by simp only [upd,g8,Nc,↓reduceIte]) ?_ (by simp only [upd,g0,Nc,↓reduceIte]) (by simp only [upd,g2,Nc,↓reduceIte])
    have : cntN (memR t) a (i + 1) = cntN (memR t) a i:=by simp only [cntN]; rw [if_neg hp]; omega
    rw [this]
    simp only [upd,g7,Nc,↓reduceIte]
  ·have h1 : decide (((a + i : Nat) : Int)≤((a + k : Nat) : Int) - 1) = false:=decide_eq_false (by omega)
   refine jB (Ai @g8 (Ai @g2 @h1)) ?_
   refine jF ?_
   refine awp_exit ?_
   simp only [thenQ,blockQ,if_true]
   refine hK _ _ ?_;clear hK hK2 K2 K
   obtain rfl : i = k:=by omega
   refine jB @g7 ?_
   exact jJ
theorem refNamed_calls (t : List NodeV) (ht : t.length≤2 ^ 61) (name : List UInt8) (s : AS) : ACalls Tryz.prog Γ 72 [treeV t,.v (.string ⟨name.toArray⟩)] s (fun r s'=>r = .v (.int .i64 (namedR t name))∧s' = s):=by
 refine acalls_body Tryz.func72 rfl Tryz.ntmps72 Tryz.results72 (by simp) ?_
 have hm:=fun i s=>refMember_calls (Γ:=Γ) t ht i s
 have hat:=fun i (h : i < t.length)=>node_at (t:=t) h
 obtain ⟨Q,hQ⟩ : ∃ Q : Nat→Bool,Q = fun (j : Nat)=>decide (memR t (j : Int)∧(nd t (2 * j)).name = name):=⟨_,rfl⟩
 have hres : namedR t name = firstN Q (hlf t - 0) 0:=by rw [hQ]; rfl
 unfold treeV at hm ⊢
 generalize rowC NodeV.cells t = X at *
 refine jA ?_
 refine wK fun K hK=>?_
 refine jA ?_
 refine awp_block ?_
 refine awp_loop (fun E s2=>∃ i : Nat,i≤2 ^ 61∧firstN Q (hlf t - i) i = firstN Q (hlf t - 0) 0∧E 5 = .v (.int .i64 i)∧E 0 = .sl 5 t.length X .any∧E 1 = .v (.string ⟨name.toArray⟩)∧s2 = s)
  (fun E _=>match E 5 with | .v (.int _ i)=>hlf t - i.toNat | _=>0) ?_ ?_
 ·exact ⟨0,by omega,rfl,by simp only [upd,Nc,↓reduceIte]; rfl,by simp only [upd,initE,List.getD_cons_zero,List.getD_cons_succ,Nc,↓reduceIte],by simp only [upd,initE,List.getD_cons_zero,List.getD_cons_succ,Nc,↓reduceIte],rfl⟩
 ·rintro E1 s2 ⟨i,hi,hf,g7,g0,g1,rfl⟩ -
  refine wK fun K2 hK2=>?_
  by_cases hi' : i < hlf t
  ·have hi2 : 2 * i < t.length:=hlf_lt.1 hi'
   refine jB (Ai @g7 (Ai @g0 (Ai (imul2_nat i (by omega)) (Ai @eye_lt_nat (decide_eq_true hi2))))) ?_
   refine jE ?_
   refine awp_skip ?_
   refine hK2 _ _ ?_;clear hK2 K2
   refine wK fun K3 hK3=>?_
   refine awp_block ?_
   obtain ⟨k,hk⟩ : ∃ k,hlf t - i = k + 1:=⟨hlf t - i - 1,by omega⟩
   have hk' : hlf t - (i + 1) = k:=by omega
   rw [hk] at hf
   have hQi : Q i = decide (memR t i∧(nd t (2 * i)).name = name):=by rw [hQ]
   have hend : ∀ (E : Env),Q i = false→E 5 = .v (.int .i64 i)→E 0 = .sl 5 t.length X .any→E 1 = .v (.string ⟨name.toArray⟩)→K3 E s2:=by
    intro E hq f7 f0 f1
    refine hK3 _ _ ?_;clear hK3 K3
    refine jD (Ai @f7 (eye_succM i (by omega))) ?_
    refine ⟨⟨i + 1,by omega,by rw [hk',← hf,firstN_step hq],by simp only [upd,Nc,↓reduceIte],by simp only [upd,f0,Nc,↓reduceIte],by simp only [upd,f1,Nc,↓reduceIte],rfl⟩,?_⟩
    simp only [g7,upd,↓reduceIte]
    omega
   clear hK3
   have hat':=hat (2 * i) hi2
   generalize nd t (2 * i) = N at *
   obtain ⟨nk,nm,ny,npa,nu⟩:=N
   unfold NodeV.cells at hat'
   simp only at hQi
   have hge : (0 : Int)≤((2 * i : Nat) : Int):=by omega
   refine jS (Ai @g0 @g7) fun K hK=>?_
   refine acallk (hm _ _) ?_
   rintro r s3 ⟨rfl,rfl⟩
   by_cases hp : memR t (i : Int)
   ·rw [decide_eq_true hp]
    by_cases hn : nm = name
    ·rw [decide_eq_true ⟨hp,hn⟩] at hQi
     refine jV (Ai @g0 (Ai @g7 (Ai @g1 (Ai (imul2_nat i (by omega)) (Ai @eye_lt_nat (Ai @hi2 (Ai @hge (Ai @hat' (strEq hn))))))))) hK ?_;clear hK K
     refine jE ?_
     refine jB @g7 ?_
     refine jI ?_
     rw [hres,← hf,firstN_here hQi]
     exact ⟨_,_,AV.weak.refl _,AS.le.refl _,rfl,rfl⟩
    ·rw [decide_eq_false (fun q=>hn q.2)] at hQi
     refine jV (Ai @g0 (Ai @g7 (Ai @g1 (Ai (imul2_nat i (by omega)) (Ai @eye_lt_nat (Ai @hi2 (Ai @hge (Ai @hat' (strNe hn))))))))) hK ?_;clear hK K
     refine jF ?_
     refine awp_skip ?_
     exact hend _ hQi (by simp only [upd,g7,Nc,↓reduceIte]) (by simp only [upd,g0,Nc,↓reduceIte]) (by simp only [upd,g1,Nc,↓reduceIte])
   ·rw [decide_eq_false hp]
    rw [decide_eq_false (fun q=>hp q.1)] at hQi
    refine jR hK ?_;clear hK K
    refine jF ?_
    refine awp_skip ?_
    exact hend _ hQi (by simp only [upd,g7,Nc,↓reduceIte]) (by simp only [upd,g0,Nc,↓reduceIte]) (by simp only [upd,g1,Nc,↓reduceIte])
  ·have hi2 : ¬ 2 * i < t.length:=fun h=>hi' (hlf_lt.2 h)
   refine jB (Ai @g7 (Ai @g0 (Ai (imul2_nat i (by omega)) (Ai @eye_lt_nat (decide_eq_false hi2))))) ?_
   refine jF ?_
   refine awp_exit ?_
   simp only [thenQ,blockQ,if_true]
   refine hK _ _ ?_;clear hK hK2 K2 K
   rw [show hlf t - i = 0 by omega] at hf
   refine jA ?_
   refine jI ?_
   rw [hres,← hf]
   exact ⟨_,_,AV.weak.refl _,AS.le.refl _,rfl,rfl⟩
end Go.Proofs.YtfjlmkifiihgkaaGreatDoor
namespace Go.Proofs.YtfjlmkifiihgkaaGreatDoor
open Go Go.AM Go.Proofs
variable {Γ : Nat→List AV}
theorem rightT_R {t : List NodeV} : rightT t↔lvs t≠0∧(∀ i,i < t.length→goodR t i)∧(lvs t = 1∨0 < cntN (memR t) (lvs t / 2) (lvs t - lvs t / 2)):=by
 unfold rightT
 constructor
 ·rintro ⟨a,b,c⟩
  exact ⟨a,(good_iff a).2 b,c.imp id fun q=>by rw [cntN_congr (memR_iff a)]; exact q⟩
 ·rintro ⟨a,b,c⟩
  exact ⟨a,(good_iff a).1 b,c.imp id fun q=>by rw [← cntN_congr (memR_iff a)]; exact q⟩
theorem refRight20_calls (t : List NodeV) (ht : TreeW t) (s : AS) : ACalls Tryz.prog Γ 17 [treeV t] s (fun r s'=>r = .v (.bool (decide (rightT t)))∧s' = s):=by
 refine acalls_body Tryz.func17 rfl Tryz.ntmps17 Tryz.results17 (by simp) ?_
 have htl:=ht.1
 have hlc:=fun s=>refLeaves_calls (Γ:=Γ) t htl s
 have hmc:=fun i s=>refMember_calls (Γ:=Γ) t htl i s
 have hnc:=fun name s=>refNamed_calls (Γ:=Γ) t htl name s
 have hcc:=fun a k h s=>refCount_calls (Γ:=Γ) t htl a k h s
 have hrn:=fun i s=>refRight19_calls (Γ:=Γ) (nd t i) (ht.nd i).1 s
 have hul:=fun i=>(ht.nd i).1
 have hat:=fun i (h : i < t.length)=>node_at (t:=t) h
 have hlv:=lvs_le t
 have h0len : lvs t≠0→t.length = 2 * lvs t - 1:=fun h=>(lvs_zero_or.resolve_left h).2
 have hno0 : lvs t = 0→decide (rightT t) = false:=fun h=>decide_eq_false fun k=>k.1 h
 have hnoi : ∀ i,i < t.length→¬ goodR t i→decide (rightT t) = false:=fun i h1 h2=>decide_eq_false fun k=>h2 ((rightT_R.1 k).2.1 i h1)
 have hfin : lvs t≠0→(∀ i,i < t.length→goodR t i)→decide (rightT t) = (((lvs t : Int) == 1) || decide ((0 : Int) < (cntN (memR t) (lvs t / 2) (lvs t - lvs t / 2) : Int))):=by
  intro h1 h2
  rw [Bool.eq_iff_iff,decide_eq_true_iff,Bool.or_eq_true,beq_iff_eq,decide_eq_true_iff,rightT_R]
  constructor
  ·rintro ⟨_,_,h3⟩
   exact h3.imp (fun q=>by omega) (fun q=>by omega)
  ·intro h3
   exact ⟨h1,h2,h3.imp (fun q=>by omega) (fun q=>by omega)⟩
 unfold treeV at *
 generalize rowC NodeV.cells t = X at *
 generalize decide (rightT t) = RES at *
 refine jA ?_
 refine jK (hlc _) ?_;rintro s1 rfl
 refine wK fun K hK=>?_
 by_cases hz : lvs t = 0
 ·refine jB (nat0 hz) ?_
  refine jE ?_
  refine jA ?_
  refine jI ?_
  rw [hno0 hz]
  exact ⟨_,_,AV.weak.refl _,AS.le.refl _,rfl,rfl⟩
 ·refine jB (nat0F hz) ?_
  refine jF ?_
  refine awp_skip ?_
  refine hK _ _ ?_;clear hK K
  have hlen:=h0len hz
  refine wK fun K hK=>?_
  refine jA ?_
  refine awp_block ?_
  refine awp_loop (fun E s2=>∃ i : Nat,i≤t.length∧(∀ j,j < i→goodR t j)∧E 4 = .v (.int .i64 i)∧E 3 = .v (.int .i64 (lvs t))∧E 0 = .sl 5 t.length X .any∧s2 = s1)
   (fun E _=>match E 4 with | .v (.int _ i)=>t.length - i.toNat | _=>0) ?_ ?_
  ·exact ⟨0,Nat.zero_le _,fun j h=>absurd h (Nat.not_lt_zero _),by simp only [upd,Nc,↓reduceIte]; rfl,by simp only [upd,Nc,↓reduceIte],by simp only [upd,initE,List.getD_cons_zero,List.getD_cons_succ,Nc,↓reduceIte],rfl⟩
  ·rintro E1 s2 ⟨i,hi,hall,g4,g3,g0,rfl⟩ -
   refine wK fun K2 hK2=>?_
   by_cases hi' : i < t.length
   ·refine jB (Ai @g4 (Ai @g0 (Ai @eye_lt_nat (decide_eq_true hi')))) ?_
    refine jE ?_
    refine awp_skip ?_
    refine hK2 _ _ ?_;clear hK2 K2
    refine wK fun K3 hK3=>?_
    refine awp_block ?_
    have hnoi':=hnoi i hi'
    have hgood : goodR t i↔(nd t i).right∧((nd t i).kind = 0∨((nd t i).kind = 1↔i % 2 = 0))∧((nd t i).kind = 1→namedR t (nd t i).name = ((i / 2 : Nat) : Int))∧∀ u ∈ (nd t i).unm,(undI (i : Int)).1≤u∧u≤(undI (i : Int)).2∧memR t u:=Iff.rfl
    have hat':=hat i hi'
    have hrn':=hrn i
    have hul':=hul i
    have hni:=fun s=>hnc (nd t i).name s
    have hun:=fun s=>refUnder18_calls (Γ:=Γ) (i : Int) s
    generalize (undI (i : Int)).1 = ua at *
    generalize (undI (i : Int)).2 = ub at *
    generalize namedR t (nd t i).name = NI at *
    generalize nd t i = N at *
    obtain ⟨nk,nm,ny,npa,nu⟩:=N
    unfold NodeV.cells at hat' hrn'
    simp only at hni hul' hgood
    unfold intsV at hat' hrn'
    have hge : (0 : Int)≤(i : Int):=by omega
    have hr2 : irem (i : Int) 2 = ((i % 2 : Nat) : Int):=irem_u i 2
    have hq2 : iquo .i64 (i : Int) 2 = ((i / 2 : Nat) : Int):=iquo_nat i (by omega)
    have bb : ((true != true) = false∧(false != false) = false)∧((true != false) = true∧(false != true) = true):=⟨⟨rfl,rfl⟩,rfl,rfl⟩
    have bc : ((true == true) = true∧(false == false) = true)∧((true == false) = false∧(false == true) = false):=⟨⟨rfl,rfl⟩,rfl,rfl⟩
    have hend : goodR t i→∀ (E : Env),E 4 = .v (.int .i64 i)→E 3 = .v (.int .i64 (lvs t))→E 0 = .sl 5 t.length X .any→K3 E s2:=by
     intro hg E f4 f3 f0
     refine hK3 _ _ ?_;clear hK3 K3
     refine jD (Ai @f4 (eye_succM i (by omega))) ?_
     refine ⟨⟨i + 1,by omega,?_,by simp only [upd,Nc,↓reduceIte],by simp only [upd,f3,Nc,↓reduceIte],by simp only [upd,f0,Nc,↓reduceIte],rfl⟩,?_⟩
     ·intro j hj
      by_cases e : j = i
      ·rw [e]; exact hg
      ·exact hall j (by omega)
     ·simp only [g4,upd,↓reduceIte]
      omega
    clear hK3
    refine awp_reg_frz 5 (by decide) ?_
    intro K5 hK5
    simp only [↓DM,pval,DX,Nz,↓DN,Qa,Qb,Qc,Qd,Qe,Qf,Qg,Qh,reduceCtorEq,↓reduceIte,Na,Nb,Nc,Nk,Nf,Ng,Nh,Za,Zb,Zc,TT,g0,g4,eye_lt_nat,hi',hge,hat']
    intro o1 h1
    refine hK5 _ _ o1 _ (by simp only [upd,Nc,↓reduceIte]) h1 ?_
    clear hK5 K5 h1
    refine wK fun K4 hK4=>?_
    have h4 : (NodeV.right ⟨nk,nm,ny,npa,nu⟩∧(nk = 0∨(nk = 1↔i % 2 = 0)))→∀ (E : Env),E 4 = .v (.int .i64 i)→E 3 = .v (.int .i64 (lvs t))→E 0 = .sl 5 t.length X .any→E 5 = .rop [.v (.int .i64 nk),.sl 1 nm.length (nm.map byteV) .any,.v (.int .u64 ny),.sl 1 npa.length (npa.map byteV) .any,.sl 1 nu.length (nu.map intC) .any]→K4 E s2:=by
     clear g4 g3 g0
     rintro ⟨gr,gk⟩ E g4 g3 g0 g5
     refine hK4 _ _ ?_;clear hK4 K4
     refine wK fun K6 hK6=>?_
     have h6 : (nk = 1→NI = ((i / 2 : Nat) : Int))→∀ (E : Env),E 4 = .v (.int .i64 i)→E 3 = .v (.int .i64 (lvs t))→E 0 = .sl 5 t.length X .any→E 5 = .rop [.v (.int .i64 nk),.sl 1 nm.length (nm.map byteV) .any,.v (.int .u64 ny),.sl 1 npa.length (npa.map byteV) .any,.sl 1 nu.length (nu.map intC) .any]→K6 E s2:=by
      clear g4 g3 g0 g5
      intro gn E g4 g3 g0 g5
      refine hK6 _ _ ?_;clear hK6 K6
      refine jS @g4 fun K hK=>?_
      refine acallk (hun _) ?_
      rintro r s3 ⟨rfl,rfl⟩
      refine jR hK ?_;clear hK K
      refine jA ?_
      refine awp_block ?_
      refine awp_loop (fun E s4=>∃ k : Nat,k≤nu.length∧(∀ u ∈ nu.take k,ua≤u∧u≤ub∧memR t u)∧E 8 = .v (.int .i64 k)∧E 6 = .v (.int .i64 ua)∧E 7 = .v (.int .i64 ub)∧E 4 = .v (.int .i64 i)∧E 3 = .v (.int .i64 (lvs t))∧E 0 = .sl 5 t.length X .any∧E 5 = .rop [.v (.int .i64 nk),.sl 1 nm.length (nm.map byteV) .any,.v (.int .u64 ny),.sl 1 npa.length (npa.map byteV) .any,.sl 1 nu.length (nu.map intC) .any]∧s4 = s3)
       (fun E _=>match E 8 with | .v (.int _ i)=>nu.length - i.toNat | _=>0) ?_ ?_
      ·exact ⟨0,Nat.zero_le _,(by intro u hu; simp at hu),by simp only [upd,Nc,↓reduceIte]; rfl,by simp only [upd,Nc,↓reduceIte],by simp only [upd,Nc,↓reduceIte],by simp only [upd,g4,Nc,↓reduceIte],by simp only [upd,g3,Nc,↓reduceIte],by simp only [upd,g0,Nc,↓reduceIte],by simp only [upd,g5,Nc,↓reduceIte],rfl⟩
      ·clear g4 g3 g0 g5
       rintro E2 s4 ⟨k,hk,hku,g8,g6,g7,g4,g3,g0,g5,rfl⟩ -
       refine wK fun K7 hK7=>?_
       by_cases hk' : k < nu.length
       ·refine jB (Ai @g8 (Ai @g5 (Ai @eye_lt_nat (decide_eq_true hk')))) ?_
        refine jE ?_
        refine awp_skip ?_
        refine hK7 _ _ ?_;clear hK7 K7
        refine wK fun K8 hK8=>?_
        refine awp_block ?_
        have hgk : (0 : Int)≤(k : Int):=by omega
        have huat:=eat_int hk'
        have humem : nu[k] ∈ nu:=List.getElem_mem hk'
        have hutk : nu.take (k + 1) = nu.take k ++ [nu[k]]:=List.take_succ_eq_append_getElem hk'
        generalize nu[k] = u at *
        have hend2 : (ua≤u∧u≤ub∧memR t u)→∀ (E : Env),E 8 = .v (.int .i64 k)→E 6 = .v (.int .i64 ua)→E 7 = .v (.int .i64 ub)→E 4 = .v (.int .i64 i)→E 3 = .v (.int .i64 (lvs t))→E 0 = .sl 5 t.length X .any→E 5 = .rop [.v (.int .i64 nk),.sl 1 nm.length (nm.map byteV) .any,.v (.int .u64 ny),.sl 1 npa.length (npa.map byteV) .any,.sl 1 nu.length (nu.map intC) .any]→K8 E s4:=by
         intro hu E f8 f6 f7 f4 f3 f0 f5
         refine hK8 _ _ ?_;clear hK8 K8
         refine jD (Ai @f8 (eye_succM k (by omega))) ?_
         refine ⟨⟨k + 1,by omega,?_,by simp only [upd,Nc,↓reduceIte],by simp only [upd,f6,Nc,↓reduceIte],by simp only [upd,f7,Nc,↓reduceIte],by simp only [upd,f4,Nc,↓reduceIte],by simp only [upd,f3,Nc,↓reduceIte],by simp only [upd,f0,Nc,↓reduceIte],by simp only [upd,f5,Nc,↓reduceIte],rfl⟩,?_⟩
         ·intro v hv
          rw [hutk,List.mem_append,List.mem_singleton] at hv
          rcases hv with hv | rfl
          ·exact hku v hv
          ·exact hu
         ·simp only [g8,upd,↓reduceIte]
          omega
        clear hK8
        refine jB (Ai @g5 (Ai @g8 (Ai @eye_lt_nat (Ai @hk' (Ai @hgk (Ai @huat @intC.eq_1)))))) ?_
        by_cases u1 : u < ua
        ·refine jB (Ai @g6 (decide_eq_true u1)) ?_
         refine jE ?_
         refine jA ?_
         refine jI ?_
         rw [hnoi' (fun q=>by have:=((hgood.1 q).2.2.2 u humem).1; omega)]
         exact ⟨_,_,AV.weak.refl _,AS.le.refl _,rfl,rfl⟩
        ·by_cases u2 : ub < u
         ·refine jB (Ai @g6 (Ai @g7 (Ai (decide_eq_false u1) (decide_eq_true u2)))) ?_
          refine jE ?_
          refine jA ?_
          refine jI ?_
          rw [hnoi' (fun q=>by have:=((hgood.1 q).2.2.2 u humem).2.1; omega)]
          exact ⟨_,_,AV.weak.refl _,AS.le.refl _,rfl,rfl⟩
         ·refine jS (Ai @g6 (Ai @g7 (Ai @g0 (Ai (decide_eq_false u1) (decide_eq_false u2))))) fun K hK=>?_
          refine acallk (hmc _ _) ?_
          rintro r s5 ⟨rfl,rfl⟩
          by_cases u3 : memR t u
          ·rw [decide_eq_true u3]
           refine jR hK ?_;clear hK K
           refine jF ?_
           refine awp_skip ?_
           simp only [blockQ,thenQ,if_true,if_false]
           exact hend2 ⟨by omega,by omega,u3⟩ _ (by simp only [upd,g8,Nc,↓reduceIte]) (by simp only [upd,g6,Nc,↓reduceIte]) (by simp only [upd,g7,Nc,↓reduceIte]) (by simp only [upd,g4,Nc,↓reduceIte]) (by simp only [upd,g3,Nc,↓reduceIte]) (by simp only [upd,g0,Nc,↓reduceIte]) (by simp only [upd,g5,Nc,↓reduceIte])
          ·rw [decide_eq_false u3]
           refine jR hK ?_;clear hK K
           refine jE ?_
           refine jA ?_
           refine jI ?_
           rw [hnoi' (fun q=>u3 ((hgood.1 q).2.2.2 u humem).2.2)]
           exact ⟨_,_,AV.weak.refl _,AS.le.refl _,rfl,rfl⟩
       ·refine jB (Ai @g8 (Ai @g5 (Ai @eye_lt_nat (decide_eq_false hk')))) ?_
        refine jF ?_
        refine awp_exit ?_
        simp only [thenQ,blockQ,if_true,if_false]
        rw [List.take_of_length_le (by omega)] at hku
        exact hend (hgood.2 ⟨gr,gk,gn,hku⟩) _ (by simp only [upd,g4,Nc,↓reduceIte]) (by simp only [upd,g3,Nc,↓reduceIte]) (by simp only [upd,g0,Nc,↓reduceIte])
     clear hK6
     by_cases k1 : nk = 1
     ·refine jS (Ai @g5 (Ai (yesI k1) @g0)) fun K hK=>?_
      refine acallk (hni _) ?_
      rintro r s3 ⟨rfl,rfl⟩
      by_cases hn : NI = ((i / 2 : Nat) : Int)
      ·refine jV (Ai @g4 (Ai @two0 (Ai @hq2 (eqI hn)))) hK ?_;clear hK K
       refine jF ?_
       refine awp_skip ?_
       exact h6 (fun _=>hn) _ (by simp only [upd,g4,Nc,↓reduceIte]) (by simp only [upd,g3,Nc,↓reduceIte]) (by simp only [upd,g0,Nc,↓reduceIte]) (by simp only [upd,g5,Nc,↓reduceIte])
      ·refine jV (Ai @g4 (Ai @two0 (Ai @hq2 (neI hn)))) hK ?_;clear hK K
       refine jE ?_
       refine jA ?_
       refine jI ?_
       rw [hnoi' (fun q=>hn ((hgood.1 q).2.2.1 k1))]
       exact ⟨_,_,AV.weak.refl _,AS.le.refl _,rfl,rfl⟩
     ·refine jB (Ai @g5 (notI k1)) ?_
      refine jF ?_
      refine awp_skip ?_
      exact h6 (fun q=>absurd q k1) _ (by simp only [upd,g4,Nc,↓reduceIte]) (by simp only [upd,g3,Nc,↓reduceIte]) (by simp only [upd,g0,Nc,↓reduceIte]) (by simp only [upd,g5,Nc,↓reduceIte])
    clear hK4
    refine jQ fun K hK=>?_
    refine acallk (hrn' _) ?_
    rintro r s3 ⟨rfl,rfl⟩
    by_cases gr : NodeV.right ⟨nk,nm,ny,npa,nu⟩
    ·rw [decide_eq_true gr]
     by_cases k0 : nk = 0
     ·refine jV (eqI k0) hK ?_;clear hK K
      refine jF ?_
      refine awp_skip ?_
      exact h4 ⟨gr,.inl k0⟩ _ (by simp only [upd,g4,Nc,↓reduceIte]) (by simp only [upd,g3,Nc,↓reduceIte]) (by simp only [upd,g0,Nc,↓reduceIte]) (by simp only [upd,Nc,↓reduceIte])
     ·by_cases k1 : nk = 1
      ·by_cases kp : i % 2 = 0
       ·have t2 : (irem (i : Int) 2 == 0) = true:=by rw [hr2]; exact yesI (by omega)
        simp only [↓DM,pval,DX,Nz,↓DN,Qa,Qb,Qc,Qd,Qe,Qf,Qg,Qh,reduceCtorEq,↓reduceIte,Na,Nb,Nc,Nk,Nf,Ng,Nh,Za,Zb,Zc,TT,neI k0,yesI k1,g4,two0,t2,bb,bc]
        refine hK _ _ ?_;clear hK K
        refine jF ?_
        refine awp_skip ?_
        exact h4 ⟨gr,.inr ⟨fun _=>kp,fun _=>k1⟩⟩ _ (by simp only [upd,g4,Nc,↓reduceIte]) (by simp only [upd,g3,Nc,↓reduceIte]) (by simp only [upd,g0,Nc,↓reduceIte]) (by simp only [upd,Nc,↓reduceIte])
       ·have t2 : (irem (i : Int) 2 == 0) = false:=by rw [hr2]; exact notI (by omega)
        simp only [↓DM,pval,DX,Nz,↓DN,Qa,Qb,Qc,Qd,Qe,Qf,Qg,Qh,reduceCtorEq,↓reduceIte,Na,Nb,Nc,Nk,Nf,Ng,Nh,Za,Zb,Zc,TT,neI k0,yesI k1,g4,two0,t2,bb,bc]
        refine hK _ _ ?_;clear hK K
        refine jE ?_
        refine jA ?_
        refine jI ?_
        rw [hnoi' (fun q=>by rcases (hgood.1 q).2.1 with h | h; exact k0 h; exact kp (h.1 k1))]
        exact ⟨_,_,AV.weak.refl _,AS.le.refl _,rfl,rfl⟩
      ·by_cases kp : i % 2 = 0
       ·have t2 : (irem (i : Int) 2 == 0) = true:=by rw [hr2]; exact yesI (by omega)
        simp only [↓DM,pval,DX,Nz,↓DN,Qa,Qb,Qc,Qd,Qe,Qf,Qg,Qh,reduceCtorEq,↓reduceIte,Na,Nb,Nc,Nk,Nf,Ng,Nh,Za,Zb,Zc,TT,neI k0,notI k1,g4,two0,t2,bb,bc]
        refine hK _ _ ?_;clear hK K
        refine jE ?_
        refine jA ?_
        refine jI ?_
        rw [hnoi' (fun q=>by rcases (hgood.1 q).2.1 with h | h; exact k0 h; exact k1 (h.2 kp))]
        exact ⟨_,_,AV.weak.refl _,AS.le.refl _,rfl,rfl⟩
       ·have t2 : (irem (i : Int) 2 == 0) = false:=by rw [hr2]; exact notI (by omega)
        simp only [↓DM,pval,DX,Nz,↓DN,Qa,Qb,Qc,Qd,Qe,Qf,Qg,Qh,reduceCtorEq,↓reduceIte,Na,Nb,Nc,Nk,Nf,Ng,Nh,Za,Zb,Zc,TT,neI k0,notI k1,g4,two0,t2,bb,bc]
        refine hK _ _ ?_;clear hK K
        refine jF ?_
        refine awp_skip ?_
        exact h4 ⟨gr,.inr ⟨fun h=>absurd h k1,fun h=>absurd h kp⟩⟩ _ (by simp only [upd,g4,Nc,↓reduceIte]) (by simp only [upd,g3,Nc,↓reduceIte]) (by simp only [upd,g0,Nc,↓reduceIte]) (by simp only [upd,Nc,↓reduceIte])
    ·rw [decide_eq_false gr]
     refine jR hK ?_;clear hK K
     refine jE ?_
     refine jA ?_
     refine jI ?_
     rw [hnoi' (fun q=>gr (hgood.1 q).1)]
     exact ⟨_,_,AV.weak.refl _,AS.le.refl _,rfl,rfl⟩
   ·refine jB (Ai @g4 (Ai @g0 (Ai @eye_lt_nat (decide_eq_false hi')))) ?_
    refine jF ?_
    refine awp_exit ?_
    simp only [thenQ,blockQ,if_true]
    refine hK _ _ ?_;clear hK hK2 K2 K
    have hall' : ∀ j,j < t.length→goodR t j:=fun j h=>hall j (by omega)
    have hres:=hfin hz hall'
    by_cases h1 : lvs t = 1
    ·have e1:=yesI (show ((lvs t : Nat) : Int) = 1 by omega)
     rw [e1] at hres
     refine jB (Ai @g3 @e1) ?_
     refine jI ?_
     rw [hres]
     exact ⟨_,_,AV.weak.refl _,AS.le.refl _,rfl,rfl⟩
    ·have e1:=notI (show ¬ ((lvs t : Nat) : Int) = 1 by omega)
     rw [e1,Bool.false_or] at hres
     have e2 : iquo .i64 (lvs t : Int) 2 = ((lvs t / 2 : Nat) : Int):=iquo_nat _ (by omega)
     have e3 : isub .i64 (lvs t : Int) 1 = (((lvs t / 2 + (lvs t - lvs t / 2) : Nat)) : Int) - 1:=by rw [isub_i64 (by omega)]; omega
     have hcm:=fun s=>hcc (lvs t / 2) (lvs t - lvs t / 2) (by omega) s
     generalize (((lvs t / 2 + (lvs t - lvs t / 2) : Nat)) : Int) - 1 = LL at *
     refine jS (Ai @g3 (Ai @e1 (Ai @two0 (Ai @e2 (Ai @e3 @g0))))) fun K hK=>?_
     refine acallk (hcm _) ?_
     rintro r s3 ⟨rfl,rfl⟩
     refine jR hK ?_;clear hK K
     refine jI ?_
     rw [hres]
     exact ⟨_,_,AV.weak.refl _,AS.le.refl _,rfl,rfl⟩
end Go.Proofs.YtfjlmkifiihgkaaGreatDoor
namespace Go.Proofs.YtfjlmkifiihgkaaGreatDoor
open Go Go.AM Go.Proofs
variable {Γ : Nat→List AV}
theorem bytesClone_nil (s : AS) : ACalls Tryz.prog Γ 95 [nilS] s (fun r s'=>r = bytesV [] .any∧s' = s):=by
 refine acalls_body Tryz.func95 rfl Tryz.ntmps95 Tryz.results95 (by simp) ?_
 unfold nilS
 refine jA ?_
 refine wK fun K hK=>?_
 refine jA ?_
 refine jE ?_
 refine jA ?_
 refine jI ?_
 exact ⟨_,_,AV.weak_nil,AS.le.refl _,rfl,rfl⟩
theorem bytesClone_no (l : List UInt8) (s : AS) (hl : l.length≤2 ^ 45) : ACalls Tryz.prog Γ 95 [bytesV l .no] s (fun r s'=>r = bytesV l .any∧s' = s):=by
 refine acalls_body Tryz.func95 rfl Tryz.ntmps95 Tryz.results95 (by simp) ?_
 unfold bytesV
 refine jA ?_
 refine wK fun K hK=>?_
 refine jB @and_false ?_
 refine jF ?_
 refine awp_skip ?_
 refine hK _ _ ?_;clear hK K
 by_cases h0 : l.length = 0
 ·have hl0 : l = []:=List.eq_nil_of_length_eq_zero h0
  subst hl0
  refine jA ?_
  refine jI ?_
  exact ⟨_,s,AV.weak_any,AS.le.refl s,rfl,rfl⟩
 ·refine jS @h0 fun K hK=>?_
  refine ⟨by omega,by omega,fun t ht=>hK _ _ ?_⟩
  clear hK K
  refine jI ?_
  exact ⟨_,s,AV.weak_any,AS.le_gain (AS.le.refl s) ht 0,rfl,rfl⟩
theorem bytesClone_calls (l : List UInt8) (s : AS) (hl : l.length≤2 ^ 45) : ACalls Tryz.prog Γ 95 [bytesV l .any] s (fun r s'=>r = bytesV l .any∧s' = s) :=
 ACalls.any (pre:=[]) (post:=[]) (fun e=>by subst e; exact bytesClone_nil s) (bytesClone_no l s hl)
end Go.Proofs.YtfjlmkifiihgkaaGreatDoor
namespace Go.Proofs.YtfjlmkifiihgkaaGreatDoor
open Go Go.AM Go.Proofs
variable {Γ : Nat→List AV}
theorem memR_right {t : List NodeV} (h : rightT t) (i : Int) : memR t i↔memI t i:=memR_iff h.1 i
theorem take_eqL {α : Type} {a b : List α} {i : Nat} (ha : i < a.length) (hb : i < b.length) (h : a.take i = b.take i) (he : a[i] = b[i]) : a.take (i + 1) = b.take (i + 1):=by
 rw [List.take_succ_eq_append_getElem ha,List.take_succ_eq_append_getElem hb,h,he]
theorem take_fullL {α : Type} {a b : List α} {i : Nat} (hl : a.length = b.length) (ha : ¬ i < a.length) (h : a.take i = b.take i) : a = b:=by
 rwa [List.take_of_length_le (by omega),List.take_of_length_le (by omega)] at h
theorem same20_calls (a b : List NodeV) (ha : TreeW a) (s : AS) : ACalls Tryz.prog Γ 13 [treeV a,treeV b] s (fun r s'=>r = .v (.bool (decide (a = b)))∧s' = s):=by
 refine acalls_body Tryz.func13 rfl Tryz.ntmps13 Tryz.results13 (by simp) ?_
 have hrow1:=fun i (h : i < a.length)=>row_at (c:=NodeV.cells) (k:=5) (fun _=>rfl) h
 have hrow2:=fun i (h : i < b.length)=>row_at (c:=NodeV.cells) (k:=5) (fun _=>rfl) h
 have hal:=ha.1
 unfold treeV
 generalize rowC NodeV.cells a = XA at *
 generalize rowC NodeV.cells b = XB at *
 refine jA ?_
 refine wK fun K hK=>?_
 by_cases hl : a.length = b.length
 ·refine jB (natEq hl) ?_
  refine jF ?_
  refine awp_skip ?_
  refine hK _ _ ?_;clear hK K
  refine wK fun K hK=>?_
  refine jA ?_
  refine awp_block ?_
  refine awp_loop (fun E s2=>∃ i : Nat,i≤a.length∧E 5 = .v (.int .i64 i)∧E 0 = .sl 5 a.length XA .any∧E 1 = .sl 5 b.length XB .any∧a.take i = b.take i∧s2 = s)
   (fun E _=>match E 5 with | .v (.int _ i)=>a.length - i.toNat | _=>0) ?_ ?_
  ·exact ⟨0,Nat.zero_le _,by simp only [upd,Nc,↓reduceIte]; rfl,by simp only [upd,initE,List.getD_cons_zero,List.getD_cons_succ,Nc,↓reduceIte],by simp only [upd,initE,List.getD_cons_zero,List.getD_cons_succ,Nc,↓reduceIte],by simp,rfl⟩
  ·rintro E1 s2 ⟨i,hi,g5,g0,g1,hall,rfl⟩ -
   refine wK fun K2 hK2=>?_
   by_cases hi' : i < a.length
   ·refine jB (Ai @g5 (Ai @g0 (Ai @eye_lt_nat (decide_eq_true hi')))) ?_
    refine jE ?_
    refine awp_skip ?_
    refine hK2 _ _ ?_;clear hK2 K2
    refine wK fun K3 hK3=>?_
    refine awp_block ?_
    have hi2 : i < b.length:=by omega
    have hat1:=hrow1 i hi'
    have hat2:=hrow2 i hi2
    have hge : (0 : Int)≤(i : Int):=by omega
    have hyes : a[i] = b[i]→a.take (i + 1) = b.take (i + 1):=take_eqL hi' hi2 hall
    have hno : a[i]≠b[i]→decide (a = b) = false:=fun h=>decide_eq_false fun q=>h (by subst q; rfl)
    have hsm:=fun s=>refSame19_calls (Γ:=Γ) a[i] b[i] (ha.2 _ (List.getElem_mem hi')).1 s
    generalize a[i] = y1 at *
    generalize b[i] = y2 at *
    obtain ⟨P,hP⟩ : ∃ P,P = decide (y1 = y2):=⟨_,rfl⟩
    rw [← hP] at hsm
    obtain ⟨nk,nm,ny,npa,nu⟩:=y1
    obtain ⟨mk,mm,my,mpa,mu⟩:=y2
    unfold NodeV.cells at hat1 hat2 hsm
    simp only at hat1 hat2 hsm
    unfold intsV at hat1 hat2 hsm
    refine awp_drw_seq T.mixed [8] (by kernel_rfl) ?_
    intro K hK
    simp only [↓DM,pval,DX,Nz,↓DN,Qa,Qb,Qc,Qd,Qe,Qf,Qg,Qh,reduceCtorEq,↓reduceIte,Na,Nb,Nc,Nk,Nf,Ng,Nh,Za,Zb,Zc,TT,g5,g0,g1,eye_lt_nat,hi',hi2,hge,hat1,hat2]
    refine acallk (hsm _) ?_
    rintro r s3 ⟨rfl,rfl⟩
    cases P with
    | true =>
     refine jR hK ?_;clear hK K
     refine jF ?_
     refine awp_skip ?_
     simp only [blockQ,thenQ,if_true,if_false]
     refine hK3 _ _ ?_;clear hK3 K3
     refine jD (Ai @g5 (eye_succM i (by omega))) ?_
     refine ⟨⟨i + 1,by omega,by simp only [upd,Nc,↓reduceIte],by simp only [upd,g0,Nc,↓reduceIte],by simp only [upd,g1,Nc,↓reduceIte],hyes (of_decide_eq_true hP.symm),rfl⟩,?_⟩
     simp only [g5,upd,↓reduceIte]
     omega
    | false =>
     refine jR hK ?_;clear hK K
     refine jE ?_
     refine jA ?_
     refine jI ?_
     rw [hno (of_decide_eq_false hP.symm)]
     exact ⟨_,_,AV.weak.refl _,AS.le.refl _,rfl,rfl⟩
   ·refine jB (Ai @g5 (Ai @g0 (Ai @eye_lt_nat (decide_eq_false hi')))) ?_
    refine jF ?_
    refine awp_exit ?_
    simp only [thenQ,blockQ,if_true]
    refine hK _ _ ?_;clear hK hK2 K2 K
    have hab : a = b:=take_fullL hl hi' hall
    refine jA ?_
    refine jI ?_
    rw [decide_eq_true hab]
    exact ⟨_,_,AV.weak.refl _,AS.le.refl _,rfl,rfl⟩
 ·refine jB (natNe hl) ?_
  refine jE ?_
  refine jA ?_
  refine jI ?_
  rw [decide_eq_false (fun q=>hl (by rw [q]))]
  exact ⟨_,_,AV.weak.refl _,AS.le.refl _,rfl,rfl⟩
end Go.Proofs.YtfjlmkifiihgkaaGreatDoor
namespace Go.Proofs.YtfjlmkifiihgkaaGreatDoor
open Go Go.AM Go.Proofs
variable {Γ : Nat→List AV}
abbrev wV (x : Nat) : AV:=.v (.int .u32 (x : Int))
theorem neg_i64 (a : Nat) (h : a < 32) : ineg .i64 (a : Int) = -(a : Int):=by
 rw [ineg,IntWalk.i64_in _ (by omega)]
 omega
theorem rot_count (a : Nat) (h0 : 0 < a) (h : a < 32) : iand .u64 (iconv .u64 (-(a : Int))) 31 = ((32 - a : Nat) : Int):=by
 have e : iconv .u64 (-(a : Int)) = ((18446744073709551616 - a : Nat) : Int):=by
  rw [iconv,wrap_u rfl]
  simp only [IntKind.bits]
  omega
 rw [e,show (31 : Int) = ((31 : Nat) : Int) from rfl,iand_u rfl _ _ (by simp only [IntKind.bits]; omega) (by decide)]
 congr 1
 have : (18446744073709551616 - a) &&& 31 = (18446744073709551616 - a) % 2 ^ 5:=Nat.and_two_pow_sub_one_eq_mod _ 5
 rw [this]
 omega
theorem nat_not_neg (a : Nat) : ¬ ((a : Nat) : Int) < 0:=by omega
theorem rot_sub (a : Nat) (h0 : 0 < a) (h : a < 32) : isub .u64 32 ((32 - a : Nat) : Int) = ((a : Nat) : Int):=by
 have:=isub_u_le (k:=.u64) rfl 32 (32 - a) (by omega) (by decide)
 rw [show (32 : Int) = ((32 : Nat) : Int) from rfl,this]
 congr 1
 omega
theorem rot_val (x a : Nat) (hx : x < 4294967296) (h0 : 0 < a) (h : a < 32) : ior .u32 (ishl .u32 (x : Int) ((32 - a : Nat) : Int)) (ishr .u32 (x : Int) ((a : Nat) : Int)) = ((Sha.rotr x a : Nat) : Int):=by
 rw [ishl_u rfl,ishr_u]
 rw [ior_u rfl _ _ (Nat.mod_lt _ (by decide)) (by simp only [IntKind.bits]; exact Nat.lt_of_le_of_lt (Nat.div_le_self _ _) hx)]
 rw [Sha.rotr,Nat.or_comm]
 simp only [IntKind.bits]
 rw [Nat.min_eq_left (by omega),Nat.min_eq_left (by omega)]
theorem wxor (a b : Nat) (ha : a < 4294967296) (hb : b < 4294967296) : ixor .u32 (a : Int) (b : Int) = ((a ^^^ b : Nat) : Int):=ixor_u rfl a b ha hb
theorem wand (a b : Nat) (ha : a < 4294967296) (hb : b < 4294967296) : iand .u32 (a : Int) (b : Int) = ((a &&& b : Nat) : Int):=iand_u rfl a b ha hb
theorem wor (a b : Nat) (ha : a < 4294967296) (hb : b < 4294967296) : ior .u32 (a : Int) (b : Int) = ((a ||| b : Nat) : Int):=ior_u rfl a b ha hb
theorem wadd (a b : Nat) : iadd .u32 (a : Int) (b : Int) = ((Sha.add32 a b : Nat) : Int):=iadd_u rfl a b
theorem wnot (a : Nat) (ha : a < 4294967296) : inot .u32 (a : Int) = ((4294967295 - a : Nat) : Int):=inot_u rfl a ha
theorem wshr (a c : Nat) (hc : c < 32) : ishr .u32 (a : Int) ((c : Nat) : Int) = ((a / 2 ^ c : Nat) : Int):=by
 rw [ishr_u]
 simp only [IntKind.bits]
 rw [Nat.min_eq_left (by omega)]
theorem wshl (a c : Nat) (hc : c < 32) : ishl .u32 (a : Int) ((c : Nat) : Int) = (((a * 2 ^ c) % 4294967296 : Nat) : Int):=by
 rw [ishl_u rfl]
 simp only [IntKind.bits]
 rw [Nat.min_eq_left (by omega)]
theorem rotl_calls (x a : Nat) (hx : x < 4294967296) (h0 : 0 < a) (h : a < 32) (s : AS) :
  ACalls Tryz.prog Γ 257 [wV x,.v (.int .i64 (-(a : Int)))] s (fun r s'=>r = wV (Sha.rotr x a)∧s' = s):=by
 refine acalls_body Tryz.func257 rfl Tryz.ntmps257 Tryz.results257 (by simp) ?_
 refine jA ?_
 refine jB (rot_count a h0 h) ?_
 refine jB (Ai @nat_not_neg (Ai (rot_sub a h0 h) (rot_val x a hx h0 h))) ?_
 refine jI ?_
 exact ⟨_,s,AV.weak.refl _,AS.le.refl s,rfl,rfl⟩
theorem turned_calls (x a b c : Nat) (hx : x < 4294967296) (ha0 : 0 < a) (ha : a < 32) (hb0 : 0 < b) (hb : b < 32) (hc0 : 0 < c) (hc : c < 32) (s : AS) :
  ACalls Tryz.prog Γ 234 [wV x,.v (.int .i64 (a : Int)),.v (.int .i64 (b : Int)),.v (.int .i64 (c : Int))] s (fun r s'=>r = wV (Sha.sig3 x a b c)∧s' = s):=by
 refine acalls_body Tryz.func234 rfl Tryz.ntmps234 Tryz.results234 (by simp) ?_
 refine jA ?_
 refine jS (neg_i64 a ha) fun K hK=>?_
 refine acallk (rotl_calls x a hx ha0 ha _) ?_
 rintro r s1 ⟨rfl,rfl⟩
 simp only [↓DM,pval,DX,Nz,↓DN,Qa,Qb,Qc,Qd,Qe,Qf,Qg,Qh,reduceCtorEq,↓reduceIte,Na,Nb,Nc,Nk,Nf,Ng,Nh,Za,Zb,Zc,TT,neg_i64 b hb]
 refine acallk (rotl_calls x b hx hb0 hb _) ?_
 rintro r s2 ⟨rfl,rfl⟩
 simp only [↓DM,pval,DX,Nz,↓DN,Qa,Qb,Qc,Qd,Qe,Qf,Qg,Qh,reduceCtorEq,↓reduceIte,Na,Nb,Nc,Nk,Nf,Ng,Nh,Za,Zb,Zc,TT,neg_i64 c hc,wxor _ _ (Sha.rotr_lt a hx) (Sha.rotr_lt b hx)]
 refine acallk (rotl_calls x c hx hc0 hc _) ?_
 rintro r s3 ⟨rfl,rfl⟩
 refine jV (wxor _ _ (Nat.xor_lt_two_pow (n:=32) (Sha.rotr_lt a hx) (Sha.rotr_lt b hx)) (Sha.rotr_lt c hx)) hK ?_;clear hK K
 exact jJ
theorem shifted_calls (x a b c : Nat) (hx : x < 4294967296) (ha0 : 0 < a) (ha : a < 32) (hb0 : 0 < b) (hb : b < 32) (hc0 : 0 < c) (hc : c < 32) (s : AS) :
  ACalls Tryz.prog Γ 256 [wV x,.v (.int .i64 (a : Int)),.v (.int .i64 (b : Int)),.v (.int .i64 (c : Int))] s (fun r s'=>r = wV (Sha.sig2 x a b c)∧s' = s):=by
 refine acalls_body Tryz.func256 rfl Tryz.ntmps256 Tryz.results256 (by simp) ?_
 refine jA ?_
 refine awp_drw_seq T.mixed [3,7] (by kernel_rfl) ?_
 intro K hK
 simp only [↓DM,pval,DX,Nz,↓DN,Qa,Qb,Qc,Qd,Qe,Qf,Qg,Qh,reduceCtorEq,↓reduceIte,Na,Nb,Nc,Nk,Nf,Ng,Nh,Za,Zb,Zc,TT,neg_i64 a ha]
 refine acallk (rotl_calls x a hx ha0 ha _) ?_
 rintro r s1 ⟨rfl,rfl⟩
 simp only [↓DM,pval,DX,Nz,↓DN,Qa,Qb,Qc,Qd,Qe,Qf,Qg,Qh,reduceCtorEq,↓reduceIte,Na,Nb,Nc,Nk,Nf,Ng,Nh,Za,Zb,Zc,TT,neg_i64 b hb]
 refine acallk (rotl_calls x b hx hb0 hb _) ?_
 rintro r s2 ⟨rfl,rfl⟩
 refine jV (Ai (wxor _ _ (Sha.rotr_lt a hx) (Sha.rotr_lt b hx)) (Ai @nat_not_neg (Ai (wshr x c hc) (wxor _ _ (Nat.xor_lt_two_pow (n:=32) (Sha.rotr_lt a hx) (Sha.rotr_lt b hx)) (Nat.lt_of_le_of_lt (Nat.div_le_self x (2 ^ c)) hx))))) hK ?_;clear hK K
 exact jJ
theorem right_sub (a : Nat) (h : a < 32) : isub .i64 32 ((a : Nat) : Int) = ((32 - a : Nat) : Int):=by
 rw [isub_i64 (by omega)]
 omega
theorem right_val (x a : Nat) (hx : x < 4294967296) (h0 : 0 < a) (h : a < 32) : ior .u32 (ishr .u32 (x : Int) ((a : Nat) : Int)) (ishl .u32 (x : Int) ((32 - a : Nat) : Int)) = ((Sha.rotr x a : Nat) : Int):=by
 rw [wshl x (32 - a) (by omega),wshr x a h,wor _ _ (Nat.lt_of_le_of_lt (Nat.div_le_self _ _) hx) (Nat.mod_lt _ (by decide)),Sha.rotr]
theorem right_calls (x a : Nat) (hx : x < 4294967296) (h0 : 0 < a) (h : a < 32) (s : AS) :
  ACalls Tryz.prog Γ 181 [wV x,.v (.int .i64 (a : Int))] s (fun r s'=>r = wV (Sha.rotr x a)∧s' = s):=by
 refine acalls_body Tryz.func181 rfl Tryz.ntmps181 Tryz.results181 (by simp) ?_
 refine jA ?_
 refine awp_drw_seq T.mixed [] (by kernel_rfl) ?_
 intro K hK
 refine jV (Ai @nat_not_neg (Ai (right_sub a h) (right_val x a hx h0 h))) hK ?_;clear hK K
 refine jI ?_
 exact ⟨_,s,AV.weak.refl _,AS.le.refl s,rfl,rfl⟩
theorem refK_calls (s : AS) :
  ACalls Tryz.prog Γ 179 [] s (fun r s'=>r = .sl 1 64 (Sha.K.map wV) .no∧s' = s):=by
 refine acalls_body Tryz.func179 rfl Tryz.ntmps179 Tryz.results179 (by simp) ?_
 refine jA ?_
 refine jA ?_
 refine jI ?_
 exact ⟨_,s,AV.weak_sl rfl,AS.le.refl s,rfl,rfl⟩
end Go.Proofs.YtfjlmkifiihgkaaGreatDoor
