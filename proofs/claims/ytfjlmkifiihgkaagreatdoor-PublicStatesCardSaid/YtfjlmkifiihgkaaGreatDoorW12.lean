/- Contracts of the program's functions, each walked once; the conditions stand in each theorem. -/
import Derived.Test.YtfjlmkifiihgkaaGreatDoorAMp6
import Derived.Test.YtfjlmkifiihgkaaGreatDoorW1
import Derived.Test.YtfjlmkifiihgkaaGreatDoorW11
import Derived.Test.YtfjlmkifiihgkaaGreatDoorW2
import Derived.Test.YtfjlmkifiihgkaaGreatDoorW9
import Derived.Test.YtfjlmkifiihgkaaGreatDoorW10
import Derived.Test.YtfjlmkifiihgkaaGreatDoorRows
import Derived.Test.YtfjlmkifiihgkaaGreatDoorW6
import Derived.ProofKit
import Derived.LaidMore
import Derived.MakeChecks
import Derived.OpenShut
set_option linter.unusedSimpArgs false
set_option linter.unusedVariables false
open Nat renaming reduceLT → Na, reduceLeDiff → Nb, reduceEqDiff → Nc, reduceAdd → Nk, reduceMul → Nf, reducePow → Ng, reduceSub → Nh, reduceBEq → Nz
open Int renaming reduceLT → Za, reduceLE → Zb, reduceToNat → Zc
open And renaming intro → Ai
open Go.AM renaming ashift → Qa, aconv → Qb, aindexAddr → Qc, aindex → Qd, aslice → Qe, abuiltin → Qf, awp_reg_seq → wS, awp_reg_end → wE, awp_seq_k → wK, awp_cond_k → wC
open Go.AM.AV renaming cells → Qg, one → Qh
set_option maxRecDepth 100000
set_option maxHeartbeats 8000000
set_option autoImplicit false
namespace Go.Proofs.YtfjlmkifiihgkaaGreatDoor
open Go Go.AM Go.Proofs
variable {Γ : Nat→List AV}
theorem flat_txt_len {ds : List (List UInt8)} (hd : ∀ d ∈ ds,d.length≤255) : (flatT (txt 1) ds).length≤ds.length * 256 :=
 flatT_len fun d h=>by rw [txt_len]; have:=hd d h; omega
theorem headed_calls (g : List UInt8) (e : Int) (ds : List (List UInt8)) (sp : Sp) (hg : g.length≤255) (h0 : 0≤e) (h1 : e < 2 ^ 62) (hd : ∀ d ∈ ds,d.length≤255) (hn : ds.length≤1000) (s : AS) :
  ACalls Tryz.prog Γ 114 [bytesV g .any,.v (.int .i64 e),.sl 1 ds.length (PartsB ds) sp] s (fun r s'=>r = bytesV (headB g e ++ flatT (txt 1) ds) .any∧s' = s):=by
 refine acalls_body Tryz.func114 rfl Tryz.ntmps114 Tryz.results114 (by simp) ?_
 have hat:=fun (i : Nat) (h : i < ds.length)=>text_at1 h
 have hPB : PartsB ds = ds.map fun b=>bytesV b .any:=rfl
 rw [← hPB] at hat
 have hH : headB g e = txt 1 g ++ be 8 e.toNat:=rfl
 have hHl:=hd_len g e
 generalize headB g e = H at *
 generalize PartsB ds = PS at *
 unfold bytesV at *
 refine jA ?_
 refine jQ fun K hK=>?_
 refine acallk (new_calls _) ?_
 rintro r s2 ⟨p,rfl,hp⟩
 refine jR hK ?_;clear hK K
 refine jQ fun K hK=>?_
 refine acallk (penShort_calls s s2 p _ _ g (IsB.any g) (by simp; omega) hp) ?_
 rintro r s3 ⟨rfl,h2⟩
 rw [penText_raw (by omega),pen_raw0] at h2
 refine jR hK ?_;clear hK K
 refine jS (epoch_u64 h0 h1) fun K hK=>?_
 refine acallk (penU64_calls s s3 p _ e.toNat (by omega) (by simp; omega) h2) ?_
 rintro r s4 ⟨rfl,h3⟩
 rw [penNum8] at h3
 have e3 : penRaw (be 8 e.toNat) (be 1 g.length ++ g,false) = (H ++ flatT (txt 1) (ds.take 0),false):=by rw [hH]; simp [penRaw,txt,flatT]
 rw [e3] at h3
 refine jR hK ?_;clear hK K
 refine wK fun K hK=>?_
 refine jA ?_
 refine awp_block ?_
 refine awp_loop (fun E s5=>∃ i : Nat,i≤ds.length∧E 22 = .v (.int .i64 i)∧E 21 = .v (.int .i64 ds.length)∧E 20 = .sl 1 ds.length PS sp∧E 7 = .ptr p 0∧PenS s s5 p (H ++ flatT (txt 1) (ds.take i),false))
  (fun E _=>match E 22 with | .v (.int _ i)=>ds.length - i.toNat | _=>0) ?_ ?_
 ·exact ⟨0,Nat.zero_le _,by simp only [upd,Nc,↓reduceIte]; rfl,by simp only [upd,Nc,↓reduceIte],by simp only [upd,initE,List.getD_cons_zero,List.getD_cons_succ,Nc,↓reduceIte],by simp only [upd,Nc,↓reduceIte],h3⟩
 ·rintro E1 s5 ⟨i,hi,g22,g21,g20,g7,hP⟩ -
  by_cases hi' : i < ds.length
  ·refine jB (Ai @g22 (Ai @g21 (Ai @eye_lt_nat (decide_eq_true hi')))) ?_
   refine wK fun K2 hK2=>?_
   refine jE ?_
   refine awp_skip ?_
   refine hK2 _ _ ?_;clear hK2 K2
   refine wK fun K3 hK3=>?_
   refine awp_block ?_
   have hge : (0 : Int)≤(i : Int):=by omega
   have hat':=hat i hi'
   have hdl:=hd _ (List.getElem_mem hi')
   have hft:=flatT_take (txt 1) hi'
   have hfl:=flat_txt_len (ds:=ds.take i) (fun d h=>hd d (List.mem_of_mem_take h))
   rw [List.length_take] at hfl
   generalize ds[i] = d at *
   refine jB (Ai @g20 (Ai @g22 (Ai @hge (Ai @eye_lt_nat (Ai @hi' @hat'))))) ?_
   refine jU @g7 fun K hK=>?_
   refine acallk (penShort_calls s s5 p _ _ d (IsB.any d) (by simp only [List.length_append]; omega) hP) ?_
   rintro r s6 ⟨rfl,h5⟩
   rw [penText_raw (by omega)] at h5
   have e5 : penRaw (be 1 d.length ++ d) (H ++ flatT (txt 1) (ds.take i),false) = (H ++ flatT (txt 1) (ds.take (i + 1)),false):=by rw [hft]; simp [penRaw,txt]
   rw [e5] at h5
   refine jR hK ?_;clear hK K
   simp only [blockQ,thenQ,if_true,if_false]
   refine hK3 _ _ ?_;clear hK3 K3
   refine jD (Ai @g22 (eye_succM i (by omega))) ?_
   refine ⟨⟨i + 1,by omega,by simp only [upd,Nc,↓reduceIte],by simp only [upd,g21,Nc,↓reduceIte],by simp only [upd,g20,Nc,↓reduceIte],by simp only [upd,g7,Nc,↓reduceIte],h5⟩,?_⟩
   simp only [g22,upd,↓reduceIte]
   omega
  ·refine jB (Ai @g22 (Ai @g21 (Ai @eye_lt_nat (decide_eq_false hi')))) ?_
   refine wK fun K2 hK2=>?_
   refine jF ?_
   refine awp_exit ?_
   simp only [thenQ,blockQ,if_true]
   refine hK _ _ ?_;clear hK hK2 K2 K
   obtain rfl : i = ds.length:=by omega
   rw [List.take_length] at hP
   have hfl:=flat_txt_len hd
   refine jS @g7 fun K hK=>?_
   refine acallk (penBytes_calls s s5 p _ (by simp only [List.length_append]; omega) hP) ?_
   rintro r s8 ⟨rfl,rfl⟩
   refine jR hK ?_;clear hK K
   refine jA ?_
   refine jI ?_
   exact ⟨_,s,AV.weak.refl _,hP.le,by simp,rfl⟩
def ctxB (S : StV) : List UInt8:=headB S.group S.epoch ++ flatT (txt 1) [RootT S.tree,S.conf]
def besB (S : StV) : List UInt8:=headB S.group (S.epoch + 1) ++ flatT (txt 1) [S.inter]
theorem root_len (t : List NodeV) : (RootT t).length≤32:=by
 unfold RootT HashT
 split
 ·exact hashF_len t _ _
 ·decide
theorem pubContext_calls (hG0 : Γ 0 = stC Sha.H0) (hG1 : Γ 1 = Sha.K.map wV) (hG : Γ 3 = dB64.map u8C) (S : StV) (ht : S.wf) (s : AS) : ACalls Tryz.prog Γ 39 [.agg S.cells] s (fun r s'=>r = bytesV (if S.right then ctxB S else []) .any∧s' = s):=by
 refine acalls_body Tryz.func39 rfl Tryz.ntmps39 Tryz.results39 (by simp) ?_
 have h1:=fun s=>pubRight_calls (Γ:=Γ) hG S ht s
 by_cases hr : S.right
 ·rw [decide_eq_true hr] at h1
  rw [if_pos hr]
  have h2:=fun s=>root20_calls (Γ:=Γ) hG0 hG1 hG S.tree ht s
  have hrl:=root_len S.tree
  obtain ⟨⟨r1,r2⟩,r3,r4,-,r5,r6⟩:=hr
  have h3:=fun s=>headed_calls (Γ:=Γ) S.group S.epoch [RootT S.tree,S.conf] .new (by omega) r3 (by omega) (by
   intro d hd
   simp only [List.mem_cons,List.mem_nil_iff,or_false] at hd
   rcases hd with rfl | rfl <;> omega) (by simp) s
  rw [partsB_dub] at h3
  have hc : ctxB S = headB S.group S.epoch ++ flatT (txt 1) [RootT S.tree,S.conf]:=rfl
  rw [hc]
  generalize headB S.group S.epoch ++ flatT (txt 1) [RootT S.tree,S.conf] = R at *
  generalize RootT S.tree = RT at *
  clear hc
  unfold StV.cells at *
  unfold treeV bytesV at *
  generalize rowC NodeV.cells S.tree = X at *
  refine awp_reg_frz 1 (by decide) ?_
  intro K hK
  simp only [↓DM,pval,DX,Nz,↓DN,Qa,Qb,Qc,Qd,Qe,Qf,Qg,Qh,reduceCtorEq,↓reduceIte,Na,Nb,Nc,Nk,Nf,Ng,Nh,Za,Zb,Zc,TT]
  intro o ho
  refine hK _ _ o _ (by simp only [upd,Nc,↓reduceIte]) ho ?_
  clear hK K ho
  refine wK fun K hK=>?_
  refine jK (h1 _) ?_;rintro s1 rfl
  refine jF ?_
  refine awp_skip ?_
  refine hK _ _ ?_;clear hK K
  refine awp_drw_seq T.mixed [6,10] (by kernel_rfl) ?_
  intro K hK
  simp only [↓DM,pval,DX,Nz,↓DN,Qa,Qb,Qc,Qd,Qe,Qf,Qg,Qh,reduceCtorEq,↓reduceIte,Na,Nb,Nc,Nk,Nf,Ng,Nh,Za,Zb,Zc,TT,List.replicate_succ,List.replicate_zero]
  refine acallk (h2 _) ?_
  rintro r s2 ⟨rfl,rfl⟩
  simp only [↓DM,pval,DX,Nz,↓DN,Qa,Qb,Qc,Qd,Qe,Qf,Qg,Qh,reduceCtorEq,↓reduceIte,Na,Nb,Nc,Nk,Nf,Ng,Nh,Za,Zb,Zc,TT,List.replicate_succ,List.replicate_zero]
  refine acallk (h3 _) ?_
  rintro r s3 ⟨rfl,rfl⟩
  refine jR hK ?_;clear hK K
  exact jJ
 ·rw [decide_eq_false hr] at h1
  rw [if_neg hr]
  unfold StV.cells at *
  unfold treeV bytesV at *
  generalize rowC NodeV.cells S.tree = X at *
  refine awp_reg_frz 1 (by decide) ?_
  intro K hK
  simp only [↓DM,pval,DX,Nz,↓DN,Qa,Qb,Qc,Qd,Qe,Qf,Qg,Qh,reduceCtorEq,↓reduceIte,Na,Nb,Nc,Nk,Nf,Ng,Nh,Za,Zb,Zc,TT]
  intro o ho
  refine hK _ _ o _ (by simp only [upd,Nc,↓reduceIte]) ho ?_
  clear hK K ho
  refine wK fun K hK=>?_
  refine jK (h1 _) ?_;rintro s1 rfl
  refine jE ?_
  refine jA ?_
  refine jI ?_
  exact ⟨_,_,AV.weak_nil,AS.le.refl _,rfl,rfl⟩
theorem pubBeside_calls (hG : Γ 3 = dB64.map u8C) (S : StV) (ht : S.wf) (s : AS) : ACalls Tryz.prog Γ 40 [.agg S.cells] s (fun r s'=>r = bytesV (if S.right then besB S else []) .any∧s' = s):=by
 refine acalls_body Tryz.func40 rfl Tryz.ntmps40 Tryz.results40 (by simp) ?_
 have h1:=fun s=>pubRight_calls (Γ:=Γ) hG S ht s
 by_cases hr : S.right
 ·rw [decide_eq_true hr] at h1
  rw [if_pos hr]
  obtain ⟨⟨r1,r2⟩,r3,r4,-,r5,r6⟩:=hr
  have h3:=fun s=>headed_calls (Γ:=Γ) S.group (S.epoch + 1) [S.inter] .new (by omega) (by omega) (by omega) (by
   intro d hd
   simp only [List.mem_cons,List.mem_nil_iff,or_false] at hd
   subst hd; omega) (by simp) s
  have hp1 : PartsB [S.inter] = [bytesV S.inter .any]:=rfl
  rw [hp1] at h3
  have hc : besB S = headB S.group (S.epoch + 1) ++ flatT (txt 1) [S.inter]:=rfl
  rw [hc]
  generalize headB S.group (S.epoch + 1) ++ flatT (txt 1) [S.inter] = R at *
  have hadd : iadd .i64 S.epoch 1 = S.epoch + 1:=iadd_i64 (by omega)
  clear hc
  unfold StV.cells at *
  unfold treeV bytesV at *
  generalize rowC NodeV.cells S.tree = X at *
  refine awp_reg_frz 1 (by decide) ?_
  intro K hK
  simp only [↓DM,pval,DX,Nz,↓DN,Qa,Qb,Qc,Qd,Qe,Qf,Qg,Qh,reduceCtorEq,↓reduceIte,Na,Nb,Nc,Nk,Nf,Ng,Nh,Za,Zb,Zc,TT]
  intro o ho
  refine hK _ _ o _ (by simp only [upd,Nc,↓reduceIte]) ho ?_
  clear hK K ho
  refine wK fun K hK=>?_
  refine jK (h1 _) ?_;rintro s1 rfl
  refine jF ?_
  refine awp_skip ?_
  refine hK _ _ ?_;clear hK K
  refine wS fun K hK=>?_
  simp only [↓DN,Qa,Qb,Qc,Qd,Qe,Qf,Qg,Qh,reduceCtorEq,↓reduceIte,Na,Nb,Nc,Nk,Nf,Ng,Nh,Za,Zb,Zc,TT,List.replicate_succ,List.replicate_zero,hadd]
  refine acallk (h3 _) ?_
  rintro r s3 ⟨rfl,rfl⟩
  refine jR hK ?_;clear hK K
  exact jJ
 ·rw [decide_eq_false hr] at h1
  rw [if_neg hr]
  unfold StV.cells at *
  unfold treeV bytesV at *
  generalize rowC NodeV.cells S.tree = X at *
  refine awp_reg_frz 1 (by decide) ?_
  intro K hK
  simp only [↓DM,pval,DX,Nz,↓DN,Qa,Qb,Qc,Qd,Qe,Qf,Qg,Qh,reduceCtorEq,↓reduceIte,Na,Nb,Nc,Nk,Nf,Ng,Nh,Za,Zb,Zc,TT]
  intro o ho
  refine hK _ _ o _ (by simp only [upd,Nc,↓reduceIte]) ho ?_
  clear hK K ho
  refine wK fun K hK=>?_
  refine jK (h1 _) ?_;rintro s1 rfl
  refine jE ?_
  refine jA ?_
  refine jI ?_
  exact ⟨_,_,AV.weak_nil,AS.le.refl _,rfl,rfl⟩
end Go.Proofs.YtfjlmkifiihgkaaGreatDoor
namespace Go.Proofs.YtfjlmkifiihgkaaGreatDoor
open Go Go.AM Go.Proofs
variable {Γ : Nat→List AV}
theorem refTxt_calls (l : List UInt8) (hl : l.length < 2 ^ 61) (s : AS) :
  ACalls Tryz.prog Γ 119 [.v (.string ⟨l.toArray⟩),.v (.int .i64 1)] s (fun r s'=>r = .v (.string ⟨(txt 1 l).toArray⟩)∧s' = s):=refText_calls l 1 hl (by decide) s
theorem refHead24_calls (S : StV) (m : Int) (hg : S.group.length≤255) (h0 : 0≤S.epoch + m) (h1 : S.epoch + m < 2 ^ 62) (s : AS) :
  ACalls Tryz.prog Γ 117 [.agg S.cells,.v (.int .i64 m)] s (fun r s'=>r = .v (.string ⟨(headB S.group (S.epoch + m)).toArray⟩)∧s' = s):=by
 refine acalls_body Tryz.func117 rfl Tryz.ntmps117 Tryz.results117 (by simp) ?_
 have h2:=fun s=>refTxt_calls (Γ:=Γ) S.group (by omega) s
 have h3:=fun s=>refNumber_calls (Γ:=Γ) (S.epoch + m).toNat 8 (by omega) (by decide) s
 have hadd : iadd .i64 S.epoch m = S.epoch + m:=iadd_i64 (by omega)
 have hcv:=epoch_u64 h0 h1
 have hH : headB S.group (S.epoch + m) = txt 1 S.group ++ be 8 (S.epoch + m).toNat:=rfl
 have hroom : (txt 1 S.group).length + (be 8 (S.epoch + m).toNat).length < 2 ^ 62:=by rw [txt_len,length_be]; omega
 rw [hH]
 generalize be 8 (S.epoch + m).toNat = B at *
 generalize txt 1 S.group = A at *
 clear hH
 unfold StV.cells at *
 unfold treeV bytesV at *
 generalize rowC NodeV.cells S.tree = X at *
 refine awp_reg_frz 2 (by decide) ?_
 intro K hK
 simp only [↓DM,pval,DX,Nz,↓DN,Qa,Qb,Qc,Qd,Qe,Qf,Qg,Qh,reduceCtorEq,↓reduceIte,Na,Nb,Nc,Nk,Nf,Ng,Nh,Za,Zb,Zc,TT]
 intro o ho
 refine hK _ _ o _ (by simp only [upd,Nc,↓reduceIte]) ho ?_
 clear hK K ho
 refine awp_drw_seq T.mixed [3,9] (by kernel_rfl) ?_
 intro K hK
 simp only [↓DM,pval,DX,Nz,↓DN,Qa,Qb,Qc,Qd,Qe,Qf,Qg,Qh,reduceCtorEq,↓reduceIte,Na,Nb,Nc,Nk,Nf,Ng,Nh,Za,Zb,Zc,TT,hadd,hcv]
 refine acallk (h2 _) ?_
 rintro r s1 ⟨rfl,rfl⟩
 simp only [↓DM,pval,DX,Nz,↓DN,Qa,Qb,Qc,Qd,Qe,Qf,Qg,Qh,reduceCtorEq,↓reduceIte,Na,Nb,Nc,Nk,Nf,Ng,Nh,Za,Zb,Zc,TT,hadd,hcv]
 refine acallk (h3 _) ?_
 rintro r s2 ⟨rfl,rfl⟩
 refine jV (i64_room hroom) hK ?_;clear hK K
 exact jJ
theorem refPubOctets_calls (S : StV) (ht : S.wf) (hr : S.right) (s : AS) : ACalls Tryz.prog Γ 43 [.agg S.cells] s (fun r s'=>r = .v (.string ⟨S.text.toArray⟩)∧s' = s):=by
 refine acalls_body Tryz.func43 rfl Tryz.ntmps43 Tryz.results43 (by simp) ?_
 have htl:=treeText_len hr.2.2.2.1
 have h2:=fun s=>refTreeWrite_calls (Γ:=Γ) S.tree ht hr.2.2.2.1 s
 obtain ⟨⟨r1,r2⟩,r3,r4,-,r5,r6⟩:=hr
 have h1:=fun s=>refHead24_calls (Γ:=Γ) S 0 (by omega) (by omega) (by omega) s
 rw [Int.add_zero] at h1
 have h3:=fun s=>refTxt_calls (Γ:=Γ) S.conf (by omega) s
 have h4:=fun s=>refTxt_calls (Γ:=Γ) S.inter (by omega) s
 have hT : S.text = headB S.group S.epoch ++ treeText S.tree ++ txt 1 S.conf ++ txt 1 S.inter:=by simp [StV.text,headB]
 rw [hT]
 have l1 : (headB S.group S.epoch).length≤30:=by rw [hd_len]; omega
 have l2 : (txt 1 S.conf).length≤40:=by rw [txt_len]; omega
 have l3 : (txt 1 S.inter).length≤40:=by rw [txt_len]; omega
 generalize headB S.group S.epoch = H at *
 generalize treeText S.tree = TT0 at *
 generalize txt 1 S.conf = C at *
 generalize txt 1 S.inter = I at *
 have e1:=i64_room (show H.length + TT0.length < 2 ^ 62 by omega)
 have e2:=i64_room (show (H ++ TT0).length + C.length < 2 ^ 62 by rw [List.length_append]; omega)
 have e3:=i64_room (show (H ++ TT0 ++ C).length + I.length < 2 ^ 62 by simp only [List.length_append]; omega)
 simp only [List.length_append,List.append_assoc] at e2 e3
 have e2':=i64_room (show H.length + TT0.length + C.length < 2 ^ 62 by omega)
 have e3':=i64_room (show H.length + TT0.length + C.length + I.length < 2 ^ 62 by omega)
 have e3'':=i64_room (show H.length + (TT0.length + C.length) + I.length < 2 ^ 62 by omega)
 simp only [List.append_assoc]
 clear hT
 unfold StV.cells at *
 unfold treeV bytesV at *
 generalize rowC NodeV.cells S.tree = X at *
 refine awp_reg_frz 1 (by decide) ?_
 intro K hK
 simp only [↓DM,pval,DX,Nz,↓DN,Qa,Qb,Qc,Qd,Qe,Qf,Qg,Qh,reduceCtorEq,↓reduceIte,Na,Nb,Nc,Nk,Nf,Ng,Nh,Za,Zb,Zc,TT]
 intro o ho
 refine hK _ _ o _ (by simp only [upd,Nc,↓reduceIte]) ho ?_
 clear hK K ho
 refine awp_drw_seq T.mixed [1,4,9,14] (by kernel_rfl) ?_
 intro K hK
 simp only [↓DM,pval,DX,Nz,↓DN,Qa,Qb,Qc,Qd,Qe,Qf,Qg,Qh,reduceCtorEq,↓reduceIte,Na,Nb,Nc,Nk,Nf,Ng,Nh,Za,Zb,Zc,TT,e1]
 refine acallk (h1 _) ?_
 rintro r s1 ⟨rfl,rfl⟩
 simp only [↓DM,pval,DX,Nz,↓DN,Qa,Qb,Qc,Qd,Qe,Qf,Qg,Qh,reduceCtorEq,↓reduceIte,Na,Nb,Nc,Nk,Nf,Ng,Nh,Za,Zb,Zc,TT,e1]
 refine acallk (h2 _) ?_
 rintro r s2 ⟨rfl,rfl⟩
 simp only [↓DM,pval,DX,Nz,↓DN,Qa,Qb,Qc,Qd,Qe,Qf,Qg,Qh,reduceCtorEq,↓reduceIte,Na,Nb,Nc,Nk,Nf,Ng,Nh,Za,Zb,Zc,TT,e1]
 refine acallk (h3 _) ?_
 rintro r s3 ⟨rfl,rfl⟩
 simp only [↓DM,pval,DX,Nz,↓DN,Qa,Qb,Qc,Qd,Qe,Qf,Qg,Qh,reduceCtorEq,↓reduceIte,Na,Nb,Nc,Nk,Nf,Ng,Nh,Za,Zb,Zc,TT,e1,e2,e2']
 refine acallk (h4 _) ?_
 rintro r s4 ⟨rfl,rfl⟩
 refine jV (Ai @e1 (Ai @e2 (Ai @e2' (Ai @e3 (Ai @e3' @e3''))))) hK ?_;clear hK K
 exact jJ
theorem refPubContext_calls (S : StV) (ht : S.wf) (hr : S.right) (s : AS) : ACalls Tryz.prog Γ 44 [.agg S.cells] s (fun r s'=>r = .v (.string ⟨(ctxB S).toArray⟩)∧s' = s):=by
 refine acalls_body Tryz.func44 rfl Tryz.ntmps44 Tryz.results44 (by simp) ?_
 have h2:=fun s=>refRoot20_calls (Γ:=Γ) S.tree ht hr.2.2.2.1 s
 obtain ⟨⟨r1,r2⟩,r3,r4,-,r5,r6⟩:=hr
 have h1:=fun s=>refHead24_calls (Γ:=Γ) S 0 (by omega) (by omega) (by omega) s
 rw [Int.add_zero] at h1
 have hrl:=root_len S.tree
 have h3:=fun s=>refTxt_calls (Γ:=Γ) (RootT S.tree) (by omega) s
 have h4:=fun s=>refTxt_calls (Γ:=Γ) S.conf (by omega) s
 have hT : ctxB S = headB S.group S.epoch ++ txt 1 (RootT S.tree) ++ txt 1 S.conf:=by simp [ctxB,flatT]
 rw [hT]
 have l1 : (headB S.group S.epoch).length≤30:=by rw [hd_len]; omega
 have l2 : (txt 1 S.conf).length≤40:=by rw [txt_len]; omega
 have l3 : (txt 1 (RootT S.tree)).length≤40:=by rw [txt_len]; omega
 generalize headB S.group S.epoch = H at *
 generalize txt 1 (RootT S.tree) = B at *
 generalize RootT S.tree = RT at *
 generalize txt 1 S.conf = C at *
 have e1:=i64_room (show H.length + B.length < 2 ^ 62 by omega)
 have e2:=i64_room (show H.length + B.length + C.length < 2 ^ 62 by omega)
 simp only [List.append_assoc]
 clear hT
 unfold StV.cells at *
 unfold treeV bytesV at *
 generalize rowC NodeV.cells S.tree = X at *
 refine awp_reg_frz 1 (by decide) ?_
 intro K hK
 simp only [↓DM,pval,DX,Nz,↓DN,Qa,Qb,Qc,Qd,Qe,Qf,Qg,Qh,reduceCtorEq,↓reduceIte,Na,Nb,Nc,Nk,Nf,Ng,Nh,Za,Zb,Zc,TT]
 intro o ho
 refine hK _ _ o _ (by simp only [upd,Nc,↓reduceIte]) ho ?_
 clear hK K ho
 refine awp_drw_seq T.mixed [1,4,5,10] (by kernel_rfl) ?_
 intro K hK
 simp only [↓DM,pval,DX,Nz,↓DN,Qa,Qb,Qc,Qd,Qe,Qf,Qg,Qh,reduceCtorEq,↓reduceIte,Na,Nb,Nc,Nk,Nf,Ng,Nh,Za,Zb,Zc,TT,e1]
 refine acallk (h1 _) ?_
 rintro r s1 ⟨rfl,rfl⟩
 simp only [↓DM,pval,DX,Nz,↓DN,Qa,Qb,Qc,Qd,Qe,Qf,Qg,Qh,reduceCtorEq,↓reduceIte,Na,Nb,Nc,Nk,Nf,Ng,Nh,Za,Zb,Zc,TT,e1]
 refine acallk (h2 _) ?_
 rintro r s2 ⟨rfl,rfl⟩
 simp only [↓DM,pval,DX,Nz,↓DN,Qa,Qb,Qc,Qd,Qe,Qf,Qg,Qh,reduceCtorEq,↓reduceIte,Na,Nb,Nc,Nk,Nf,Ng,Nh,Za,Zb,Zc,TT,e1]
 refine acallk (h3 _) ?_
 rintro r s3 ⟨rfl,rfl⟩
 simp only [↓DM,pval,DX,Nz,↓DN,Qa,Qb,Qc,Qd,Qe,Qf,Qg,Qh,reduceCtorEq,↓reduceIte,Na,Nb,Nc,Nk,Nf,Ng,Nh,Za,Zb,Zc,TT,e1,e2]
 refine acallk (h4 _) ?_
 rintro r s4 ⟨rfl,rfl⟩
 refine jV (Ai @e1 @e2) hK ?_;clear hK K
 exact jJ
theorem refPubBeside_calls (S : StV) (hr : S.right) (s : AS) : ACalls Tryz.prog Γ 45 [.agg S.cells] s (fun r s'=>r = .v (.string ⟨(besB S).toArray⟩)∧s' = s):=by
 refine acalls_body Tryz.func45 rfl Tryz.ntmps45 Tryz.results45 (by simp) ?_
 obtain ⟨⟨r1,r2⟩,r3,r4,-,r5,r6⟩:=hr
 have h1:=fun s=>refHead24_calls (Γ:=Γ) S 1 (by omega) (by omega) (by omega) s
 have h4:=fun s=>refTxt_calls (Γ:=Γ) S.inter (by omega) s
 have hT : besB S = headB S.group (S.epoch + 1) ++ txt 1 S.inter:=by simp [besB,flatT]
 rw [hT]
 have l1 : (headB S.group (S.epoch + 1)).length≤30:=by rw [hd_len]; omega
 have l2 : (txt 1 S.inter).length≤40:=by rw [txt_len]; omega
 generalize headB S.group (S.epoch + 1) = H at *
 generalize txt 1 S.inter = C at *
 have e1:=i64_room (show H.length + C.length < 2 ^ 62 by omega)
 clear hT
 unfold StV.cells at *
 unfold treeV bytesV at *
 generalize rowC NodeV.cells S.tree = X at *
 refine awp_reg_frz 1 (by decide) ?_
 intro K hK
 simp only [↓DM,pval,DX,Nz,↓DN,Qa,Qb,Qc,Qd,Qe,Qf,Qg,Qh,reduceCtorEq,↓reduceIte,Na,Nb,Nc,Nk,Nf,Ng,Nh,Za,Zb,Zc,TT]
 intro o ho
 refine hK _ _ o _ (by simp only [upd,Nc,↓reduceIte]) ho ?_
 clear hK K ho
 refine awp_drw_seq T.mixed [1,5] (by kernel_rfl) ?_
 intro K hK
 simp only [↓DM,pval,DX,Nz,↓DN,Qa,Qb,Qc,Qd,Qe,Qf,Qg,Qh,reduceCtorEq,↓reduceIte,Na,Nb,Nc,Nk,Nf,Ng,Nh,Za,Zb,Zc,TT,e1]
 refine acallk (h1 _) ?_
 rintro r s1 ⟨rfl,rfl⟩
 simp only [↓DM,pval,DX,Nz,↓DN,Qa,Qb,Qc,Qd,Qe,Qf,Qg,Qh,reduceCtorEq,↓reduceIte,Na,Nb,Nc,Nk,Nf,Ng,Nh,Za,Zb,Zc,TT,e1]
 refine acallk (h4 _) ?_
 rintro r s4 ⟨rfl,rfl⟩
 refine jV @e1 hK ?_;clear hK K
 exact jJ
end Go.Proofs.YtfjlmkifiihgkaaGreatDoor
namespace Go.Proofs.YtfjlmkifiihgkaaGreatDoor
open Go Go.AM Go.Proofs
variable {Γ : Nat→List AV}
def smallS (S : StV) : Prop:=(S.tree.length≤31∧S.group.length≤40∧S.conf.length≤60∧S.inter.length≤60)∧∀ n ∈ S.tree,smallN n
instance (S : StV) : Decidable (smallS S):=by unfold smallS; infer_instance
theorem small24_calls (S : StV) (s : AS) : ACalls Tryz.prog Γ 26 [.agg S.cells] s (fun r s'=>r = .v (.bool (decide (smallS S)))∧s' = s):=by
 refine acalls_body Tryz.func26 rfl Tryz.ntmps26 Tryz.results26 (by simp) ?_
 have hat:=fun (i : Nat) (hi : i < S.tree.length)=>node_at hi
 obtain ⟨Z,hZ⟩ : ∃ Z : Bool,Z = decide (smallS S):=⟨_,rfl⟩
 rw [← hZ]
 obtain ⟨g,e,t,c,q⟩:=S
 have hS : Z = true↔(t.length≤31∧g.length≤40∧c.length≤60∧q.length≤60)∧∀ n ∈ t,smallN n:=by rw [hZ,decide_eq_true_iff]; exact Iff.rfl
 clear hZ
 unfold StV.cells
 simp only at hat ⊢
 unfold treeV bytesV
 generalize hX : rowC NodeV.cells t = X at *
 refine awp_reg_frz 1 (by decide) ?_
 intro K hK
 simp only [↓DM,pval,DX,Nz,↓DN,Qa,Qb,Qc,Qd,Qe,Qf,Qg,Qh,reduceCtorEq,↓reduceIte,Na,Nb,Nc,Nk,Nf,Ng,Nh,Za,Zb,Zc,TT]
 intro o ho
 refine hK _ _ o _ (by simp only [upd,Nc,↓reduceIte]) ho ?_
 clear hK K ho
 refine wK fun K hK=>?_
 rcases tt4 (decide ((31 : Int) < (t.length : Int))) (decide ((40 : Int) < (g.length : Int))) (decide ((60 : Int) < (c.length : Int))) (decide ((60 : Int) < (q.length : Int))) with hd | hd | hd | hd | hd
 case inr.inr.inr.inr =>
  have hB : t.length≤31∧g.length≤40∧c.length≤60∧q.length≤60:=by
   simp only [decide_eq_false_iff_not] at hd
   omega
  refine jB @hd ?_
  refine jF ?_
  refine awp_skip ?_
  refine hK _ _ ?_;clear hK K
  refine wK fun K hK=>?_
  refine jA ?_
  refine awp_block ?_
  refine awp_loop (fun E s2=>∃ i : Nat,i≤t.length∧(∀ b ∈ t.take i,smallN b)∧E 3 = .v (.int .i64 i)∧E 1 = .rop [.sl 1 g.length (g.map byteV) .any,.v (.int .i64 e),.sl 5 t.length X .any,.sl 1 c.length (c.map byteV) .any,.sl 1 q.length (q.map byteV) .any]∧s2 = s)
   (fun E _=>match E 3 with | .v (.int _ i)=>t.length - i.toNat | _=>0) ?_ ?_
  ·exact ⟨0,Nat.zero_le _,by simp,by simp only [upd,Nc,↓reduceIte]; rfl,by simp only [upd,Nc,↓reduceIte],rfl⟩
  ·rintro E1 s4 ⟨i,hi,hall,g3,g1,rfl⟩ -
   refine wK fun K2 hK2=>?_
   by_cases hi' : i < t.length
   ·refine jB (Ai @g3 (Ai @g1 (Ai @eye_lt_nat (decide_eq_true hi')))) ?_
    refine jE ?_
    refine awp_skip ?_
    refine hK2 _ _ ?_;clear hK2 K2
    refine wK fun K3 hK3=>?_
    refine awp_block ?_
    have hge : (0 : Int)≤(i : Int):=by omega
    have hat':=hat i hi'
    have htk:=List.take_succ_eq_append_getElem hi'
    have hmem:=List.getElem_mem hi'
    rw [nd_get hi'] at hat'
    generalize t[i] = N at *
    have hout : ¬ smallN N→Z = false:=fun q=>Bool.eq_false_iff.2 fun r=>q ((hS.1 r).2 N hmem)
    have hin : N.name.length≤40→N.parent.length≤60→N.unm.length≤40→smallN N:=fun a b c=>⟨a,b,c⟩
    have hno : smallN N→N.name.length≤40∧N.parent.length≤60∧N.unm.length≤40:=fun h=>h
    obtain ⟨nk,nm,ny,npa,nu⟩:=N
    unfold NodeV.cells at hat'
    unfold bytesV intsV at hat'
    simp only at hin hno
    rcases tt3 (decide ((40 : Int) < (nm.length : Int))) (decide ((60 : Int) < (npa.length : Int))) (decide ((40 : Int) < (nu.length : Int))) with he | he | he | he
    case inr.inr.inr =>
     refine jB (Ai @g3 (Ai @g1 (Ai @hge (Ai @eye_lt_nat (Ai @hi' (Ai @hat' @he)))))) ?_
     refine jF ?_
     refine awp_skip ?_
     simp only [blockQ,thenQ,if_true,if_false]
     refine hK3 _ _ ?_;clear hK3 K3
     refine jD (Ai @g3 (eye_succM i (by omega))) ?_
     refine ⟨⟨i + 1,by omega,?_,by simp only [upd,Nc,↓reduceIte],by simp only [upd,g1,Nc,↓reduceIte],rfl⟩,?_⟩
     ·rw [htk]
      intro x hx
      rw [List.mem_append,List.mem_singleton] at hx
      simp only [decide_eq_false_iff_not] at he
      rcases hx with hx | rfl
      ·exact hall x hx
      ·exact hin (by omega) (by omega) (by omega)
     ·simp only [g3,upd,↓reduceIte]
      omega
    all_goals
     refine jB (Ai @g3 (Ai @g1 (Ai @hge (Ai @eye_lt_nat (Ai @hi' (Ai @hat' @he)))))) ?_
     refine jE ?_
     refine jA ?_
     refine jI ?_
     rw [hout fun h=>by
      have:=hno h
      simp only [decide_eq_true_eq,decide_eq_false_iff_not] at he
      omega]
     exact ⟨_,_,AV.weak.refl _,AS.le.refl _,rfl,rfl⟩
   ·refine jB (Ai @g3 (Ai @g1 (Ai @eye_lt_nat (decide_eq_false hi')))) ?_
    refine jF ?_
    refine awp_exit ?_
    simp only [thenQ,blockQ,if_true]
    refine hK _ _ ?_;clear hK hK2 K2 K
    rw [List.take_of_length_le (by omega)] at hall
    refine jA ?_
    refine jI ?_
    rw [hS.2 ⟨hB,hall⟩]
    exact ⟨_,_,AV.weak.refl _,AS.le.refl _,rfl,rfl⟩
 all_goals
  refine jB @hd ?_
  refine jE ?_
  refine jA ?_
  refine jI ?_
  rw [show Z = false from Bool.eq_false_iff.2 fun h=>by
   have:=(hS.1 h).1
   simp only [decide_eq_true_eq,decide_eq_false_iff_not] at hd
   omega]
  exact ⟨_,_,AV.weak.refl _,AS.le.refl _,rfl,rfl⟩
theorem smallS_W {S : StV} (h : smallS S) (hk : ∀ n ∈ S.tree,n.key < 2 ^ 64) : S.wf:=by
 have h1:=h.1.1
 refine ⟨by omega,fun n hn=>⟨?_,hk n hn⟩⟩
 have:=(h.2 n hn).2.2
 omega
end Go.Proofs.YtfjlmkifiihgkaaGreatDoor
namespace Go.Proofs.YtfjlmkifiihgkaaGreatDoor
open Go Go.AM Go.Proofs
variable {Γ : Nat→List AV}
theorem boolN24 : (false != false) = false∧(true != true) = false:=⟨rfl,rfl⟩
theorem bneB (b : Bool) : (b != b) = false:=by cases b <;> rfl
theorem strEqq (l : List UInt8) : (l == l) = true:=by simp
theorem publicStates_calls (hG0 : Γ 0 = stC Sha.H0) (hG1 : Γ 1 = Sha.K.map wV) (hG : Γ 3 = dB64.map u8C) (S U : StV) (hkS : ∀ n ∈ S.tree,n.key < 2 ^ 64) (s : AS) :
  ACalls Tryz.prog Γ 8 [.agg S.cells,.agg U.cells] s (fun r s'=>r = .v (.bool true)):=by
 refine acalls_body Tryz.func8 rfl Tryz.ntmps8 Tryz.results8 (by simp) ?_
 have haw:=fun s=>awake24_calls (Γ:=Γ) hG0 hG1 hG s
 have hsS:=fun s=>small24_calls (Γ:=Γ) S s
 have hsT:=fun s=>small24_calls (Γ:=Γ) U s
 by_cases hS : smallS S
 ·rw [decide_eq_true hS] at hsS
  by_cases hT : smallS U
  ·rw [decide_eq_true hT] at hsT
   have hW:=smallS_W hS hkS
   have h1:=fun s=>pubOctets_calls (Γ:=Γ) hG S hW s
   have h2:=fun s=>pubContext_calls (Γ:=Γ) hG0 hG1 hG S hW s
   have h3:=fun s=>pubBeside_calls (Γ:=Γ) hG S hW s
   have h4:=fun s=>pubRight_calls (Γ:=Γ) hG S hW s
   have h5:=fun s=>refPubRight_calls (Γ:=Γ) S hW s
   have h6:=fun s=>pubSame_calls (Γ:=Γ) S U hW s
   have h7:=fun s=>refPubSame_calls (Γ:=Γ) S U hW s
   have h8:=fun s=>pubSame_calls (Γ:=Γ) S S hW s
   have h9:=fun s=>refPubSame_calls (Γ:=Γ) S S hW s
   rw [decide_eq_true rfl] at h8 h9
   by_cases hr : S.right
   ·have h10:=fun s=>pubRead_calls (Γ:=Γ) hG S.text (by have:=StV.text_len hr; omega) s
    rw [stRead_text S hr] at h10
    have h11:=fun s=>refPubOctets_calls (Γ:=Γ) S hW hr s
    have h12:=fun s=>refPubContext_calls (Γ:=Γ) S hW hr s
    have h13:=fun s=>refPubBeside_calls (Γ:=Γ) S hr s
    rw [if_pos hr] at h1 h2 h3
    rw [decide_eq_true hr] at h1 h4 h5
    simp only at h10
    clear hS hT hW hG hG0 hG1 hkS hr
    generalize S.text = TX at *
    generalize ctxB S = CX at *
    generalize besB S = BX at *
    generalize decide (S = U) = D at *
    unfold StV.cells at *
    unfold treeV bytesV at *
    generalize rowC NodeV.cells S.tree = X at *
    generalize rowC NodeV.cells U.tree = Y at *
    refine awp_reg_frz2 2 3 (by decide) (by decide) (by decide) ?_
    intro K hK
    simp only [↓DM,pval,DX,Nz,↓DN,Qa,Qb,Qc,Qd,Qe,Qf,Qg,Qh,reduceCtorEq,↓reduceIte,Na,Nb,Nc,Nk,Nf,Ng,Nh,Za,Zb,Zc,TT]
    intro o1 q1 o2 q3
    refine hK _ _ o1 o2 _ _ (by simp only [upd,Nc,↓reduceIte]) (by simp only [upd,Nc,↓reduceIte]) q1 (by rw [AS.set_objs_eq]; exact q3) ?_
    clear hK K q1 q3
    refine wK fun K hK=>?_
    refine jQ fun K hK=>?_
    refine acallk (haw _) ?_
    rintro r s1 ⟨rfl,rfl⟩
    simp only [↓DM,pval,DX,Nz,↓DN,Qa,Qb,Qc,Qd,Qe,Qf,Qg,Qh,reduceCtorEq,↓reduceIte,Na,Nb,Nc,Nk,Nf,Ng,Nh,Za,Zb,Zc,TT]
    refine acallk (hsS _) ?_
    rintro r s2 ⟨rfl,rfl⟩
    simp only [↓DM,pval,DX,Nz,↓DN,Qa,Qb,Qc,Qd,Qe,Qf,Qg,Qh,reduceCtorEq,↓reduceIte,Na,Nb,Nc,Nk,Nf,Ng,Nh,Za,Zb,Zc,TT]
    refine acallk (hsT _) ?_
    rintro r s3 ⟨rfl,rfl⟩
    refine jR hK ?_;clear hK K
    refine jF ?_
    refine awp_skip ?_
    refine hK _ _ ?_;clear hK K
    refine jK (h1 _) ?_;rintro s4 rfl
    refine awp_drw_seq T.mixed [1,3] (by kernel_rfl) ?_
    intro K hK
    simp only [↓DM,pval,DX,Nz,↓DN,Qa,Qb,Qc,Qd,Qe,Qf,Qg,Qh,reduceCtorEq,↓reduceIte,Na,Nb,Nc,Nk,Nf,Ng,Nh,Za,Zb,Zc,TT]
    refine acallk (h2 _) ?_
    rintro r s5 ⟨rfl,rfl⟩
    simp only [↓DM,pval,DX,Nz,↓DN,Qa,Qb,Qc,Qd,Qe,Qf,Qg,Qh,reduceCtorEq,↓reduceIte,Na,Nb,Nc,Nk,Nf,Ng,Nh,Za,Zb,Zc,TT]
    refine acallk (h3 _) ?_
    rintro r s6 ⟨rfl,rfl⟩
    refine jR hK ?_;clear hK K
    refine wK fun K hK=>?_
    refine awp_drw_seq T.mixed [1,3,8,14,17,23] (by kernel_rfl) ?_
    intro K hK
    simp only [↓DM,pval,DX,Nz,↓DN,Qa,Qb,Qc,Qd,Qe,Qf,Qg,Qh,reduceCtorEq,↓reduceIte,Na,Nb,Nc,Nk,Nf,Ng,Nh,Za,Zb,Zc,TT]
    refine acallk (h4 _) ?_
    rintro r s7 ⟨rfl,rfl⟩
    simp only [↓DM,pval,DX,Nz,↓DN,Qa,Qb,Qc,Qd,Qe,Qf,Qg,Qh,reduceCtorEq,↓reduceIte,Na,Nb,Nc,Nk,Nf,Ng,Nh,Za,Zb,Zc,TT]
    refine acallk (h5 _) ?_
    rintro r s8 ⟨rfl,rfl⟩
    simp only [↓DM,pval,DX,Nz,↓DN,Qa,Qb,Qc,Qd,Qe,Qf,Qg,Qh,reduceCtorEq,↓reduceIte,Na,Nb,Nc,Nk,Nf,Ng,Nh,Za,Zb,Zc,TT,bneB,boolN24]
    refine acallk (h4 _) ?_
    rintro r s9 ⟨rfl,rfl⟩
    simp only [↓DM,pval,DX,Nz,↓DN,Qa,Qb,Qc,Qd,Qe,Qf,Qg,Qh,reduceCtorEq,↓reduceIte,Na,Nb,Nc,Nk,Nf,Ng,Nh,Za,Zb,Zc,TT,bneB,boolN24]
    refine acallk (h6 _) ?_
    rintro r s10 ⟨rfl,rfl⟩
    simp only [↓DM,pval,DX,Nz,↓DN,Qa,Qb,Qc,Qd,Qe,Qf,Qg,Qh,reduceCtorEq,↓reduceIte,Na,Nb,Nc,Nk,Nf,Ng,Nh,Za,Zb,Zc,TT,bneB,boolN24]
    refine acallk (h7 _) ?_
    rintro r s11 ⟨rfl,rfl⟩
    simp only [↓DM,pval,DX,Nz,↓DN,Qa,Qb,Qc,Qd,Qe,Qf,Qg,Qh,reduceCtorEq,↓reduceIte,Na,Nb,Nc,Nk,Nf,Ng,Nh,Za,Zb,Zc,TT,bneB,boolN24]
    refine acallk (h8 _) ?_
    rintro r s12 ⟨rfl,rfl⟩
    refine jV (Ai @bneB @boolN24) hK ?_;clear hK K
    refine jF ?_
    refine awp_skip ?_
    refine hK _ _ ?_;clear hK K
    refine wK fun K hK=>?_
    refine jA ?_
    refine jF ?_
    refine awp_skip ?_
    refine hK _ _ ?_;clear hK K
    refine awp_reg_frz 9 (by decide) ?_
    intro K hK
    simp only [↓DM,pval,DX,Nz,↓DN,Qa,Qb,Qc,Qd,Qe,Qf,Qg,Qh,reduceCtorEq,↓reduceIte,Na,Nb,Nc,Nk,Nf,Ng,Nh,Za,Zb,Zc,TT]
    refine acallk (h10 _) ?_
    rintro r s13 ⟨rfl,rfl⟩
    simp only [↓DM,pval,DX,Nz,↓DN,Qa,Qb,Qc,Qd,Qe,Qf,Qg,Qh,reduceCtorEq,↓reduceIte,Na,Nb,Nc,Nk,Nf,Ng,Nh,Za,Zb,Zc,TT]
    intro o3 q4
    refine hK _ _ o3 _ (by simp only [upd,Nc,↓reduceIte]) q4 ?_
    clear hK K q4
    refine awp_drw_seq T.mixed [3,9,16,26] (by kernel_rfl) ?_
    intro K hK
    simp only [↓DM,pval,DX,Nz,↓DN,Qa,Qb,Qc,Qd,Qe,Qf,Qg,Qh,reduceCtorEq,↓reduceIte,Na,Nb,Nc,Nk,Nf,Ng,Nh,Za,Zb,Zc,TT]
    refine acallk (h11 _) ?_
    rintro r s14 ⟨rfl,rfl⟩
    simp only [↓DM,pval,DX,Nz,↓DN,Qa,Qb,Qc,Qd,Qe,Qf,Qg,Qh,reduceCtorEq,↓reduceIte,Na,Nb,Nc,Nk,Nf,Ng,Nh,Za,Zb,Zc,TT,strEqq]
    refine acallk (h12 _) ?_
    rintro r s15 ⟨rfl,rfl⟩
    simp only [↓DM,pval,DX,Nz,↓DN,Qa,Qb,Qc,Qd,Qe,Qf,Qg,Qh,reduceCtorEq,↓reduceIte,Na,Nb,Nc,Nk,Nf,Ng,Nh,Za,Zb,Zc,TT,strEqq]
    refine acallk (h13 _) ?_
    rintro r s16 ⟨rfl,rfl⟩
    simp only [↓DM,pval,DX,Nz,↓DN,Qa,Qb,Qc,Qd,Qe,Qf,Qg,Qh,reduceCtorEq,↓reduceIte,Na,Nb,Nc,Nk,Nf,Ng,Nh,Za,Zb,Zc,TT,strEqq,show ((0 : Int) == 0) = true from rfl]
    refine acallk (h9 _) ?_
    rintro r s17 ⟨rfl,rfl⟩
    refine jR hK ?_;clear hK K
    refine jI ?_
    exact ⟨_,_,AV.weak.refl _,AS.le.refl _,rfl⟩
   ·rw [if_neg hr] at h1 h2 h3
    rw [decide_eq_false hr] at h1 h4 h5
    clear hS hT hW hG hG0 hG1 hkS hr
    generalize decide (S = U) = D at *
    unfold StV.cells at *
    unfold treeV bytesV at *
    generalize rowC NodeV.cells S.tree = X at *
    generalize rowC NodeV.cells U.tree = Y at *
    refine awp_reg_frz2 2 3 (by decide) (by decide) (by decide) ?_
    intro K hK
    simp only [↓DM,pval,DX,Nz,↓DN,Qa,Qb,Qc,Qd,Qe,Qf,Qg,Qh,reduceCtorEq,↓reduceIte,Na,Nb,Nc,Nk,Nf,Ng,Nh,Za,Zb,Zc,TT]
    intro o1 q1 o2 q3
    refine hK _ _ o1 o2 _ _ (by simp only [upd,Nc,↓reduceIte]) (by simp only [upd,Nc,↓reduceIte]) q1 (by rw [AS.set_objs_eq]; exact q3) ?_
    clear hK K q1 q3
    refine wK fun K hK=>?_
    refine jQ fun K hK=>?_
    refine acallk (haw _) ?_
    rintro r s1 ⟨rfl,rfl⟩
    simp only [↓DM,pval,DX,Nz,↓DN,Qa,Qb,Qc,Qd,Qe,Qf,Qg,Qh,reduceCtorEq,↓reduceIte,Na,Nb,Nc,Nk,Nf,Ng,Nh,Za,Zb,Zc,TT]
    refine acallk (hsS _) ?_
    rintro r s2 ⟨rfl,rfl⟩
    simp only [↓DM,pval,DX,Nz,↓DN,Qa,Qb,Qc,Qd,Qe,Qf,Qg,Qh,reduceCtorEq,↓reduceIte,Na,Nb,Nc,Nk,Nf,Ng,Nh,Za,Zb,Zc,TT]
    refine acallk (hsT _) ?_
    rintro r s3 ⟨rfl,rfl⟩
    refine jR hK ?_;clear hK K
    refine jF ?_
    refine awp_skip ?_
    refine hK _ _ ?_;clear hK K
    refine jK (h1 _) ?_;rintro s4 rfl
    refine awp_drw_seq T.mixed [1,3] (by kernel_rfl) ?_
    intro K hK
    simp only [↓DM,pval,DX,Nz,↓DN,Qa,Qb,Qc,Qd,Qe,Qf,Qg,Qh,reduceCtorEq,↓reduceIte,Na,Nb,Nc,Nk,Nf,Ng,Nh,Za,Zb,Zc,TT]
    refine acallk (h2 _) ?_
    rintro r s5 ⟨rfl,rfl⟩
    simp only [↓DM,pval,DX,Nz,↓DN,Qa,Qb,Qc,Qd,Qe,Qf,Qg,Qh,reduceCtorEq,↓reduceIte,Na,Nb,Nc,Nk,Nf,Ng,Nh,Za,Zb,Zc,TT]
    refine acallk (h3 _) ?_
    rintro r s6 ⟨rfl,rfl⟩
    refine jR hK ?_;clear hK K
    refine wK fun K hK=>?_
    refine awp_drw_seq T.mixed [1,3,8,14,17,23] (by kernel_rfl) ?_
    intro K hK
    simp only [↓DM,pval,DX,Nz,↓DN,Qa,Qb,Qc,Qd,Qe,Qf,Qg,Qh,reduceCtorEq,↓reduceIte,Na,Nb,Nc,Nk,Nf,Ng,Nh,Za,Zb,Zc,TT]
    refine acallk (h4 _) ?_
    rintro r s7 ⟨rfl,rfl⟩
    simp only [↓DM,pval,DX,Nz,↓DN,Qa,Qb,Qc,Qd,Qe,Qf,Qg,Qh,reduceCtorEq,↓reduceIte,Na,Nb,Nc,Nk,Nf,Ng,Nh,Za,Zb,Zc,TT]
    refine acallk (h5 _) ?_
    rintro r s8 ⟨rfl,rfl⟩
    simp only [↓DM,pval,DX,Nz,↓DN,Qa,Qb,Qc,Qd,Qe,Qf,Qg,Qh,reduceCtorEq,↓reduceIte,Na,Nb,Nc,Nk,Nf,Ng,Nh,Za,Zb,Zc,TT,bneB,boolN24]
    refine acallk (h4 _) ?_
    rintro r s9 ⟨rfl,rfl⟩
    simp only [↓DM,pval,DX,Nz,↓DN,Qa,Qb,Qc,Qd,Qe,Qf,Qg,Qh,reduceCtorEq,↓reduceIte,Na,Nb,Nc,Nk,Nf,Ng,Nh,Za,Zb,Zc,TT,bneB,boolN24]
    refine acallk (h6 _) ?_
    rintro r s10 ⟨rfl,rfl⟩
    simp only [↓DM,pval,DX,Nz,↓DN,Qa,Qb,Qc,Qd,Qe,Qf,Qg,Qh,reduceCtorEq,↓reduceIte,Na,Nb,Nc,Nk,Nf,Ng,Nh,Za,Zb,Zc,TT,bneB,boolN24]
    refine acallk (h7 _) ?_
    rintro r s11 ⟨rfl,rfl⟩
    simp only [↓DM,pval,DX,Nz,↓DN,Qa,Qb,Qc,Qd,Qe,Qf,Qg,Qh,reduceCtorEq,↓reduceIte,Na,Nb,Nc,Nk,Nf,Ng,Nh,Za,Zb,Zc,TT,bneB,boolN24]
    refine acallk (h8 _) ?_
    rintro r s12 ⟨rfl,rfl⟩
    refine jV (Ai @bneB @boolN24) hK ?_;clear hK K
    refine jF ?_
    refine awp_skip ?_
    refine hK _ _ ?_;clear hK K
    refine wK fun K hK=>?_
    refine jA ?_
    refine jE ?_
    refine wS fun K hK=>?_
    simp only [↓DN,Qa,Qb,Qc,Qd,Qe,Qf,Qg,Qh,reduceCtorEq,↓reduceIte,Na,Nb,Nc,Nk,Nf,Ng,Nh,Za,Zb,Zc,TT,List.length_nil,show iadd .i64 ((0 : Nat) : Int) ((0 : Nat) : Int) = ((0 : Nat) : Int) from rfl,show (((0 : Nat) : Int) == 0) = true from rfl]
    refine hK _ _ ?_;clear hK K
    refine jI ?_
    exact ⟨_,_,AV.weak.refl _,AS.le.refl _,rfl⟩
  ·rw [decide_eq_false hT] at hsT
   clear hG hG0 hG1 hkS hS hT
   unfold StV.cells at *
   unfold treeV bytesV at *
   generalize rowC NodeV.cells S.tree = X at *
   generalize rowC NodeV.cells U.tree = Y at *
   refine awp_reg_frz2 2 3 (by decide) (by decide) (by decide) ?_
   intro K hK
   simp only [↓DM,pval,DX,Nz,↓DN,Qa,Qb,Qc,Qd,Qe,Qf,Qg,Qh,reduceCtorEq,↓reduceIte,Na,Nb,Nc,Nk,Nf,Ng,Nh,Za,Zb,Zc,TT]
   intro o1 q1 o2 q3
   refine hK _ _ o1 o2 _ _ (by simp only [upd,Nc,↓reduceIte]) (by simp only [upd,Nc,↓reduceIte]) q1 (by rw [AS.set_objs_eq]; exact q3) ?_
   clear hK K q1 q3
   refine wK fun K hK=>?_
   refine jQ fun K hK=>?_
   refine acallk (haw _) ?_
   rintro r s1 ⟨rfl,rfl⟩
   simp only [↓DM,pval,DX,Nz,↓DN,Qa,Qb,Qc,Qd,Qe,Qf,Qg,Qh,reduceCtorEq,↓reduceIte,Na,Nb,Nc,Nk,Nf,Ng,Nh,Za,Zb,Zc,TT]
   refine acallk (hsS _) ?_
   rintro r s2 ⟨rfl,rfl⟩
   simp only [↓DM,pval,DX,Nz,↓DN,Qa,Qb,Qc,Qd,Qe,Qf,Qg,Qh,reduceCtorEq,↓reduceIte,Na,Nb,Nc,Nk,Nf,Ng,Nh,Za,Zb,Zc,TT]
   refine acallk (hsT _) ?_
   rintro r s3 ⟨rfl,rfl⟩
   refine jR hK ?_;clear hK K
   refine jE ?_
   refine jK (haw _) ?_;rintro s4 rfl
   refine jI ?_
   exact ⟨_,_,AV.weak.refl _,AS.le.refl _,rfl⟩
 ·rw [decide_eq_false hS] at hsS
  clear hG hG0 hG1 hkS hS hsT
  unfold StV.cells at *
  unfold treeV bytesV at *
  generalize rowC NodeV.cells S.tree = X at *
  generalize rowC NodeV.cells U.tree = Y at *
  refine awp_reg_frz2 2 3 (by decide) (by decide) (by decide) ?_
  intro K hK
  simp only [↓DM,pval,DX,Nz,↓DN,Qa,Qb,Qc,Qd,Qe,Qf,Qg,Qh,reduceCtorEq,↓reduceIte,Na,Nb,Nc,Nk,Nf,Ng,Nh,Za,Zb,Zc,TT]
  intro o1 q1 o2 q3
  refine hK _ _ o1 o2 _ _ (by simp only [upd,Nc,↓reduceIte]) (by simp only [upd,Nc,↓reduceIte]) q1 (by rw [AS.set_objs_eq]; exact q3) ?_
  clear hK K q1 q3
  refine wK fun K hK=>?_
  refine jQ fun K hK=>?_
  refine acallk (haw _) ?_
  rintro r s1 ⟨rfl,rfl⟩
  simp only [↓DM,pval,DX,Nz,↓DN,Qa,Qb,Qc,Qd,Qe,Qf,Qg,Qh,reduceCtorEq,↓reduceIte,Na,Nb,Nc,Nk,Nf,Ng,Nh,Za,Zb,Zc,TT]
  refine acallk (hsS _) ?_
  rintro r s2 ⟨rfl,rfl⟩
  refine jR hK ?_;clear hK K
  refine jE ?_
  refine jK (haw _) ?_;rintro s4 rfl
  refine jI ?_
  exact ⟨_,_,AV.weak.refl _,AS.le.refl _,rfl⟩
end Go.Proofs.YtfjlmkifiihgkaaGreatDoor
namespace Go.Proofs.YtfjlmkifiihgkaaGreatDoor
open Go Go.AM Go.Proofs
def dB32 : List Nat:=[0,1,28,2,29,14,24,3,30,22,20,15,25,17,4,8,31,27,13,23,21,19,16,7,26,12,18,6,11,5,10,9]
def Γd (g : Nat) : List AV:=if g = 0 then [wV Sha.H0.a,wV Sha.H0.b,wV Sha.H0.c,wV Sha.H0.d,wV Sha.H0.e,wV Sha.H0.f,wV Sha.H0.g,wV Sha.H0.h] else if g = 1 then Sha.K.map wV else if g = 2 then dB32.map u8C else if g = 3 then dB64.map u8C else []
abbrev laidD : List (String × DataW Unit):=[("math/bits.deBruijn32tab", Rows.laid_math_bits_deBruijn32tab),("math/bits.deBruijn64tab", Rows.laid_math_bits_deBruijn64tab),("engrosser/sha.rounds", Rows.laid_engrosser_sha_rounds),("engrosser/sha.start", Rows.laid_engrosser_sha_start)]
theorem ints_of_trod {H : Type} {enc : TypeId × Value→H} {P : Program} {W : World} {base : Nat} {sp : Nat→Bool} {held : Bool} {fuel : Nat} {t e : TypeId} {n : Nat} {cs : List Value} {p : List MemPlace} {l : List Nat} {kd : IntKind}
    (hT : P.underlying t = some (.array n e)) (he : P.underlying e = some (.int kd)) (hc : P.cellsOf e = 1)
    (h : DataW.trod enc P W base sp held fuel t cs = some (.agg (l.map fun (x : Nat)=>.lit (.int kd (x : Int))),p)) : ∀ (i x : Nat),l[i]? = some x→cs[i]? = some (.int kd (x : Int)):=by
  obtain ⟨xs,m,rfl,hx,hlen,hn,hel⟩:=DataW.trod_array hT h
  simp only [Prod.mk.injEq,DataW.agg.injEq] at hx
  intro i x hi
  have h1 : (l.map fun (x : Nat)=>DataW.lit (H:=H) (.int kd (x : Int)))[i]? = some (.lit (.int kd (x : Int))):=by rw [List.getElem?_map,hi]; rfl
  rw [hx.1,List.getElem?_map] at h1
  cases hy : xs[i]? with
  | none=>rw [hy] at h1; cases h1
  | some y =>
    rw [hy] at h1
    simp only [Option.map_some,Option.some.injEq] at h1
    have hlt:=(List.getElem?_eq_some_iff.1 hy).1
    have h2:=hel i (by omega)
    rw [hy,hc,Nat.mul_one] at h2
    obtain ⟨k,e1,e2,_⟩:=DataW.trod_int he h2
    rw [e2] at h1
    simp only [DataW.lit.injEq,Lit.int.injEq,true_and] at h1
    have h3 : (List.take 1 (List.drop i cs))[0]? = some (.int kd k):=by rw [e1]; rfl
    rw [List.getElem?_take,if_pos (by decide),List.getElem?_drop,Nat.add_zero,h1] at h3
    exact h3
theorem gRounds : Tryz.prog.globalNamed "engrosser/sha.rounds" = some 1:=by kernel_rfl
theorem gStart : Tryz.prog.globalNamed "engrosser/sha.start" = some 0:=by kernel_rfl
theorem gB32 : Tryz.prog.globalNamed "math/bits.deBruijn32tab" = some 2:=by kernel_rfl
theorem gB64 : Tryz.prog.globalNamed "math/bits.deBruijn64tab" = some 3:=by kernel_rfl
theorem tRounds : (Tryz.prog.globals[1]?).map (·.type) = some 265:=by kernel_rfl
theorem tStart : (Tryz.prog.globals[0]?).map (·.type) = some 214:=by kernel_rfl
theorem tB32 : (Tryz.prog.globals[2]?).map (·.type) = some 283:=by kernel_rfl
theorem tB64 : (Tryz.prog.globals[3]?).map (·.type) = some 284:=by kernel_rfl
theorem words_at {kd : IntKind} {W : World} {g : Nat} {cs : Array Value} {l : List Nat} (hc : ∀ i,W.cell? ⟨g,i,none⟩ = cs[i]?) (h : ∀ (i x : Nat),l[i]? = some x→cs.toList[i]? = some (.int kd (x : Int))) :
    ∃ vs,VRels (G0 W) (l.map fun (x : Nat)=>.v (.int kd (x : Int))) vs∧RoAt (G0 W) g 0 vs:=by
  refine ⟨l.map fun (x : Nat)=>.int kd (x : Int),?_,?_⟩
  · have:=VRels.vals (G:=G0 W) (l.map fun (x : Nat)=>Value.int kd (x : Int))
    rwa [List.map_map] at this
  · intro j u hu
    rw [List.getElem?_map] at hu
    cases hj : l[j]? with
    | none=>rw [hj] at hu; cases hu
    | some x =>
      rw [hj] at hu
      simp only [Option.map_some,Option.some.injEq] at hu
      have:=h j x hj
      show W.cell? ⟨g,0 + j,none⟩ = some u
      rw [Nat.zero_add,hc j,← hu]
      simpa using this
theorem of_laid {W : World} (h : laidMetH Tryz.prog laidD W) : ∀ g,∃ vs,VRels (G0 W) (Γd g) vs∧RoAt (G0 W) g 0 vs:=by
  rw [MakeChecks.laidMetH_plain _ _ _ (by kernel_rfl)] at h
  obtain ⟨ps,⟨g0,t0,cs0,f0,p0,q0,hg0,ht0,hv0,hd0,⟨g1,t1,cs1,f1,p1,q1,hg1,ht1,hv1,hd1,⟨g2,t2,cs2,f2,p2,q2,hg2,ht2,hv2,hd2,⟨g3,t3,cs3,f3,p3,q3,hg3,ht3,hv3,hd3,_,_⟩,_⟩,_⟩,_⟩,_,_⟩:=h
  obtain rfl:=Option.some.inj (gB32.symm.trans hg0)
  obtain rfl:=Option.some.inj (gB64.symm.trans hg1)
  obtain rfl:=Option.some.inj (gRounds.symm.trans hg2)
  obtain rfl:=Option.some.inj (gStart.symm.trans hg3)
  obtain rfl:=Option.some.inj (tB32.symm.trans ht0)
  obtain rfl:=Option.some.inj (tB64.symm.trans ht1)
  obtain rfl:=Option.some.inj (tRounds.symm.trans ht2)
  obtain rfl:=Option.some.inj (tStart.symm.trans ht3)
  have h2:=words_at (World.var?_cell hg0 hv0) (ints_of_trod (l:=dB32) Tryz.underlying283 Tryz.underlying5 T.c5 hd0)
  have h3:=words_at (World.var?_cell hg1 hv1) (ints_of_trod (l:=dB64) Tryz.underlying284 Tryz.underlying5 T.c5 hd1)
  have h1:=words_at (World.var?_cell hg2 hv2) (ints_of_trod (l:=Sha.K) Tryz.underlying265 Tryz.underlying213 T.c213 hd2)
  have h0:=words_at (World.var?_cell hg3 hv3) (ints_of_trod (l:=Sha.H0.list) Tryz.underlying214 Tryz.underlying213 T.c213 hd3)
  intro g
  by_cases e0 : g = 0
  · subst e0; exact h0
  · by_cases e1 : g = 1
    · subst e1; exact h1
    · by_cases e2 : g = 2
      · subst e2; exact h2
      · by_cases e3 : g = 3
        · subst e3; exact h3
        · refine ⟨[],?_,fun j u h=>by simp at h⟩
          simp [Γd,e0,e1,e2,e3,VRels]
theorem door_met (os : Os) (args : Array Value) : laidMetH Tryz.prog laidD ((World.doorLaid Tryz.prog 400 os).forCall (fun _ _=>0) ⟨#[],args,[]⟩).memory:=by
  rw [MakeChecks.laidMetH_plain _ _ _ (by kernel_rfl)]
  exact laidMet_of_run' 8 (by kernel_rfl) (by kernel_rfl)
end Go.Proofs.YtfjlmkifiihgkaaGreatDoor
namespace Go.Proofs.YtfjlmkifiihgkaaGreatDoor
set_option maxRecDepth 100000
def signs : List Char:=[Char.ofNat 104,Char.ofNat 97,Char.ofNat 114,Char.ofNat 110,Char.ofNat 101,Char.ofNat 115,Char.ofNat 115,Char.ofNat 32,Char.ofNat 101,Char.ofNat 52,Char.ofNat 98,Char.ofNat 56,Char.ofNat 52,Char.ofNat 98,Char.ofNat 50,Char.ofNat 56,Char.ofNat 55,Char.ofNat 57,Char.ofNat 102,Char.ofNat 55,Char.ofNat 99,Char.ofNat 97,Char.ofNat 97,Char.ofNat 100,Char.ofNat 51,Char.ofNat 52,Char.ofNat 101,Char.ofNat 49,Char.ofNat 53,Char.ofNat 55,Char.ofNat 53,Char.ofNat 51,Char.ofNat 102,Char.ofNat 100,Char.ofNat 48,Char.ofNat 48,Char.ofNat 54,Char.ofNat 98,Char.ofNat 98,Char.ofNat 51,Char.ofNat 49,Char.ofNat 49,Char.ofNat 52,Char.ofNat 52,Char.ofNat 98,Char.ofNat 52,Char.ofNat 52,Char.ofNat 53,Char.ofNat 99,Char.ofNat 98,Char.ofNat 101,Char.ofNat 52,Char.ofNat 55,Char.ofNat 101,Char.ofNat 98,Char.ofNat 100,Char.ofNat 100,Char.ofNat 99,Char.ofNat 100,Char.ofNat 50,Char.ofNat 56,Char.ofNat 102,Char.ofNat 48,Char.ofNat 53,Char.ofNat 53,Char.ofNat 57,Char.ofNat 55,Char.ofNat 101,Char.ofNat 100,Char.ofNat 49,Char.ofNat 48,Char.ofNat 98,Char.ofNat 32,Char.ofNat 99,Char.ofNat 117,Char.ofNat 116,Char.ofNat 32,Char.ofNat 97,Char.ofNat 116,Char.ofNat 32,Char.ofNat 101,Char.ofNat 110,Char.ofNat 103,Char.ofNat 114,Char.ofNat 111,Char.ofNat 115,Char.ofNat 115,Char.ofNat 101,Char.ofNat 114,Char.ofNat 47,Char.ofNat 101,Char.ofNat 110,Char.ofNat 103,Char.ofNat 114,Char.ofNat 111,Char.ofNat 115,Char.ofNat 115,Char.ofNat 101,Char.ofNat 114,Char.ofNat 108,Char.ofNat 97,Char.ofNat 119,Char.ofNat 50,Char.ofNat 48,Char.ofNat 46,Char.ofNat 82,Char.ofNat 97,Char.ofNat 116,Char.ofNat 99,Char.ofNat 104,Char.ofNat 101,Char.ofNat 116,Char.ofNat 65,Char.ofNat 99,Char.ofNat 116,Char.ofNat 115,Char.ofNat 32,Char.ofNat 101,Char.ofNat 110,Char.ofNat 103,Char.ofNat 114,Char.ofNat 111,Char.ofNat 115,Char.ofNat 115,Char.ofNat 101,Char.ofNat 114,Char.ofNat 47,Char.ofNat 101,Char.ofNat 110,Char.ofNat 103,Char.ofNat 114,Char.ofNat 111,Char.ofNat 115,Char.ofNat 115,Char.ofNat 101,Char.ofNat 114,Char.ofNat 108,Char.ofNat 97,Char.ofNat 119,Char.ofNat 50,Char.ofNat 48,Char.ofNat 46,Char.ofNat 82,Char.ofNat 97,Char.ofNat 116,Char.ofNat 99,Char.ofNat 104,Char.ofNat 101,Char.ofNat 116,Char.ofNat 82,Char.ofNat 111,Char.ofNat 119,Char.ofNat 115,Char.ofNat 32,Char.ofNat 101,Char.ofNat 110,Char.ofNat 103,Char.ofNat 114,Char.ofNat 111,Char.ofNat 115,Char.ofNat 115,Char.ofNat 101,Char.ofNat 114,Char.ofNat 47,Char.ofNat 101,Char.ofNat 110,Char.ofNat 103,Char.ofNat 114,Char.ofNat 111,Char.ofNat 115,Char.ofNat 115,Char.ofNat 101,Char.ofNat 114,Char.ofNat 108,Char.ofNat 97,Char.ofNat 119,Char.ofNat 50,Char.ofNat 52,Char.ofNat 46,Char.ofNat 80,Char.ofNat 117,Char.ofNat 98,Char.ofNat 108,Char.ofNat 105,Char.ofNat 99,Char.ofNat 78,Char.ofNat 101,Char.ofNat 120,Char.ofNat 116,Char.ofNat 32,Char.ofNat 101,Char.ofNat 110,Char.ofNat 103,Char.ofNat 114,Char.ofNat 111,Char.ofNat 115,Char.ofNat 115,Char.ofNat 101,Char.ofNat 114,Char.ofNat 47,Char.ofNat 101,Char.ofNat 110,Char.ofNat 103,Char.ofNat 114,Char.ofNat 111,Char.ofNat 115,Char.ofNat 115,Char.ofNat 101,Char.ofNat 114,Char.ofNat 108,Char.ofNat 97,Char.ofNat 119,Char.ofNat 50,Char.ofNat 52,Char.ofNat 46,Char.ofNat 80,Char.ofNat 117,Char.ofNat 98,Char.ofNat 108,Char.ofNat 105,Char.ofNat 99,Char.ofNat 70,Char.ofNat 111,Char.ofNat 108,Char.ofNat 100,Char.ofNat 115,Char.ofNat 32,Char.ofNat 101,Char.ofNat 110,Char.ofNat 103,Char.ofNat 114,Char.ofNat 111,Char.ofNat 115,Char.ofNat 115,Char.ofNat 101,Char.ofNat 114,Char.ofNat 47,Char.ofNat 101,Char.ofNat 110,Char.ofNat 103,Char.ofNat 114,Char.ofNat 111,Char.ofNat 115,Char.ofNat 115,Char.ofNat 101,Char.ofNat 114,Char.ofNat 108,Char.ofNat 97,Char.ofNat 119,Char.ofNat 50,Char.ofNat 52,Char.ofNat 46,Char.ofNat 80,Char.ofNat 117,Char.ofNat 98,Char.ofNat 108,Char.ofNat 105,Char.ofNat 99,Char.ofNat 82,Char.ofNat 101,Char.ofNat 97,Char.ofNat 100,Char.ofNat 115,Char.ofNat 32,Char.ofNat 101,Char.ofNat 110,Char.ofNat 103,Char.ofNat 114,Char.ofNat 111,Char.ofNat 115,Char.ofNat 115,Char.ofNat 101,Char.ofNat 114,Char.ofNat 47,Char.ofNat 101,Char.ofNat 110,Char.ofNat 103,Char.ofNat 114,Char.ofNat 111,Char.ofNat 115,Char.ofNat 115,Char.ofNat 101,Char.ofNat 114,Char.ofNat 108,Char.ofNat 97,Char.ofNat 119,Char.ofNat 50,Char.ofNat 52,Char.ofNat 46,Char.ofNat 80,Char.ofNat 117,Char.ofNat 98,Char.ofNat 108,Char.ofNat 105,Char.ofNat 99,Char.ofNat 83,Char.ofNat 116,Char.ofNat 97,Char.ofNat 116,Char.ofNat 101,Char.ofNat 115,Char.ofNat 32,Char.ofNat 101,Char.ofNat 110,Char.ofNat 103,Char.ofNat 114,Char.ofNat 111,Char.ofNat 115,Char.ofNat 115,Char.ofNat 101,Char.ofNat 114,Char.ofNat 47,Char.ofNat 101,Char.ofNat 110,Char.ofNat 103,Char.ofNat 114,Char.ofNat 111,Char.ofNat 115,Char.ofNat 115,Char.ofNat 101,Char.ofNat 114,Char.ofNat 108,Char.ofNat 97,Char.ofNat 119,Char.ofNat 51,Char.ofNat 48,Char.ofNat 46,Char.ofNat 65,Char.ofNat 117,Char.ofNat 100,Char.ofNat 105,Char.ofNat 116,Char.ofNat 82,Char.ofNat 101,Char.ofNat 112,Char.ofNat 108,Char.ofNat 97,Char.ofNat 121,Char.ofNat 115]
def headWords : List (List Char):=[[Char.ofNat 104,Char.ofNat 97,Char.ofNat 114,Char.ofNat 110,Char.ofNat 101,Char.ofNat 115,Char.ofNat 115],
  [Char.ofNat 101,Char.ofNat 52,Char.ofNat 98,Char.ofNat 56,Char.ofNat 52,Char.ofNat 98,Char.ofNat 50,Char.ofNat 56,Char.ofNat 55,Char.ofNat 57,Char.ofNat 102,Char.ofNat 55,Char.ofNat 99,Char.ofNat 97,Char.ofNat 97,Char.ofNat 100,Char.ofNat 51,Char.ofNat 52,Char.ofNat 101,Char.ofNat 49,Char.ofNat 53,Char.ofNat 55,Char.ofNat 53,Char.ofNat 51,Char.ofNat 102,Char.ofNat 100,Char.ofNat 48,Char.ofNat 48,Char.ofNat 54,Char.ofNat 98,Char.ofNat 98,Char.ofNat 51,Char.ofNat 49,Char.ofNat 49,Char.ofNat 52,Char.ofNat 52,Char.ofNat 98,Char.ofNat 52,Char.ofNat 52,Char.ofNat 53,Char.ofNat 99,Char.ofNat 98,Char.ofNat 101,Char.ofNat 52,Char.ofNat 55,Char.ofNat 101,Char.ofNat 98,Char.ofNat 100,Char.ofNat 100,Char.ofNat 99,Char.ofNat 100,Char.ofNat 50,Char.ofNat 56,Char.ofNat 102,Char.ofNat 48,Char.ofNat 53,Char.ofNat 53,Char.ofNat 57,Char.ofNat 55,Char.ofNat 101,Char.ofNat 100,Char.ofNat 49,Char.ofNat 48,Char.ofNat 98],
  [Char.ofNat 99,Char.ofNat 117,Char.ofNat 116],
  [Char.ofNat 97,Char.ofNat 116],
  [Char.ofNat 101,Char.ofNat 110,Char.ofNat 103,Char.ofNat 114,Char.ofNat 111,Char.ofNat 115,Char.ofNat 115,Char.ofNat 101,Char.ofNat 114,Char.ofNat 47,Char.ofNat 101,Char.ofNat 110,Char.ofNat 103,Char.ofNat 114,Char.ofNat 111,Char.ofNat 115,Char.ofNat 115,Char.ofNat 101,Char.ofNat 114,Char.ofNat 108,Char.ofNat 97,Char.ofNat 119,Char.ofNat 50,Char.ofNat 48,Char.ofNat 46,Char.ofNat 82,Char.ofNat 97,Char.ofNat 116,Char.ofNat 99,Char.ofNat 104,Char.ofNat 101,Char.ofNat 116,Char.ofNat 65,Char.ofNat 99,Char.ofNat 116,Char.ofNat 115],
  [Char.ofNat 101,Char.ofNat 110,Char.ofNat 103,Char.ofNat 114,Char.ofNat 111,Char.ofNat 115,Char.ofNat 115,Char.ofNat 101,Char.ofNat 114,Char.ofNat 47,Char.ofNat 101,Char.ofNat 110,Char.ofNat 103,Char.ofNat 114,Char.ofNat 111,Char.ofNat 115,Char.ofNat 115,Char.ofNat 101,Char.ofNat 114,Char.ofNat 108,Char.ofNat 97,Char.ofNat 119,Char.ofNat 50,Char.ofNat 48,Char.ofNat 46,Char.ofNat 82,Char.ofNat 97,Char.ofNat 116,Char.ofNat 99,Char.ofNat 104,Char.ofNat 101,Char.ofNat 116,Char.ofNat 82,Char.ofNat 111,Char.ofNat 119,Char.ofNat 115],
  [Char.ofNat 101,Char.ofNat 110,Char.ofNat 103,Char.ofNat 114,Char.ofNat 111,Char.ofNat 115,Char.ofNat 115,Char.ofNat 101,Char.ofNat 114,Char.ofNat 47,Char.ofNat 101,Char.ofNat 110,Char.ofNat 103,Char.ofNat 114,Char.ofNat 111,Char.ofNat 115,Char.ofNat 115,Char.ofNat 101,Char.ofNat 114,Char.ofNat 108,Char.ofNat 97,Char.ofNat 119,Char.ofNat 50,Char.ofNat 52,Char.ofNat 46,Char.ofNat 80,Char.ofNat 117,Char.ofNat 98,Char.ofNat 108,Char.ofNat 105,Char.ofNat 99,Char.ofNat 78,Char.ofNat 101,Char.ofNat 120,Char.ofNat 116],
  [Char.ofNat 101,Char.ofNat 110,Char.ofNat 103,Char.ofNat 114,Char.ofNat 111,Char.ofNat 115,Char.ofNat 115,Char.ofNat 101,Char.ofNat 114,Char.ofNat 47,Char.ofNat 101,Char.ofNat 110,Char.ofNat 103,Char.ofNat 114,Char.ofNat 111,Char.ofNat 115,Char.ofNat 115,Char.ofNat 101,Char.ofNat 114,Char.ofNat 108,Char.ofNat 97,Char.ofNat 119,Char.ofNat 50,Char.ofNat 52,Char.ofNat 46,Char.ofNat 80,Char.ofNat 117,Char.ofNat 98,Char.ofNat 108,Char.ofNat 105,Char.ofNat 99,Char.ofNat 70,Char.ofNat 111,Char.ofNat 108,Char.ofNat 100,Char.ofNat 115],
  [Char.ofNat 101,Char.ofNat 110,Char.ofNat 103,Char.ofNat 114,Char.ofNat 111,Char.ofNat 115,Char.ofNat 115,Char.ofNat 101,Char.ofNat 114,Char.ofNat 47,Char.ofNat 101,Char.ofNat 110,Char.ofNat 103,Char.ofNat 114,Char.ofNat 111,Char.ofNat 115,Char.ofNat 115,Char.ofNat 101,Char.ofNat 114,Char.ofNat 108,Char.ofNat 97,Char.ofNat 119,Char.ofNat 50,Char.ofNat 52,Char.ofNat 46,Char.ofNat 80,Char.ofNat 117,Char.ofNat 98,Char.ofNat 108,Char.ofNat 105,Char.ofNat 99,Char.ofNat 82,Char.ofNat 101,Char.ofNat 97,Char.ofNat 100,Char.ofNat 115],
  [Char.ofNat 101,Char.ofNat 110,Char.ofNat 103,Char.ofNat 114,Char.ofNat 111,Char.ofNat 115,Char.ofNat 115,Char.ofNat 101,Char.ofNat 114,Char.ofNat 47,Char.ofNat 101,Char.ofNat 110,Char.ofNat 103,Char.ofNat 114,Char.ofNat 111,Char.ofNat 115,Char.ofNat 115,Char.ofNat 101,Char.ofNat 114,Char.ofNat 108,Char.ofNat 97,Char.ofNat 119,Char.ofNat 50,Char.ofNat 52,Char.ofNat 46,Char.ofNat 80,Char.ofNat 117,Char.ofNat 98,Char.ofNat 108,Char.ofNat 105,Char.ofNat 99,Char.ofNat 83,Char.ofNat 116,Char.ofNat 97,Char.ofNat 116,Char.ofNat 101,Char.ofNat 115],
  [Char.ofNat 101,Char.ofNat 110,Char.ofNat 103,Char.ofNat 114,Char.ofNat 111,Char.ofNat 115,Char.ofNat 115,Char.ofNat 101,Char.ofNat 114,Char.ofNat 47,Char.ofNat 101,Char.ofNat 110,Char.ofNat 103,Char.ofNat 114,Char.ofNat 111,Char.ofNat 115,Char.ofNat 115,Char.ofNat 101,Char.ofNat 114,Char.ofNat 108,Char.ofNat 97,Char.ofNat 119,Char.ofNat 51,Char.ofNat 48,Char.ofNat 46,Char.ofNat 65,Char.ofNat 117,Char.ofNat 100,Char.ofNat 105,Char.ofNat 116,Char.ofNat 82,Char.ofNat 101,Char.ofNat 112,Char.ofNat 108,Char.ofNat 97,Char.ofNat 121,Char.ofNat 115]]
theorem initS : Tryz.prog.initOrder = String.ofList signs:=by kernel_rfl
theorem words : wordsSigns Tryz.prog.initOrder.toList = headWords:=by
  rw [initS,String.toList_ofList]
  kernel_rfl
theorem both {a b : Bool} (h : a = true) (k : b = true) : (a && b) = true:=by rw [h,k]; rfl
theorem same_of {a b : Bool} (h : b = a) : (a == b) = true:=by rw [h]; cases a <;> rfl
theorem make_of {a b : Option Make} (h : a = b) : (a == b) = true:=by rw [h]; exact beq_self_eq_true _
theorem strip_cut (r : List (List Char)) : stripLifts liftWords ("cut".toList :: r) = ([], "cut".toList :: r):=by kernel_rfl
theorem lifts_cut {P : Program} {r} (h : behindMainWord (wordsSigns P.initOrder.toList) = "cut".toList :: r) : P.headLifts = []:=by
  unfold Program.headLifts
  rw [h,strip_cut]
  kernel_rfl
theorem make_cut {P : Program} {r} (h : behindMainWord (wordsSigns P.initOrder.toList) = "cut".toList :: r) : P.make = some .cut:=by
  unfold Program.make
  rw [h,lifts_cut h]
  kernel_rfl
theorem final_cut {P : Program} {r} (h : behindMainWord (wordsSigns P.initOrder.toList) = "cut".toList :: r) : P.liftsFinal = false:=by
  unfold Program.liftsFinal
  rw [h,lifts_cut h]
  kernel_rfl
theorem main_har {P : Program} {s r} (h : wordsSigns P.initOrder.toList = "harness".toList :: s :: r) (hs : isSumSigns s = true) : P.mainIs = some (true,s):=by
  unfold Program.mainIs
  rw [h]
  dsimp only
  rw [hs]
  kernel_rfl
theorem may_cut {P : Program} {r} (h : behindMainWord (wordsSigns P.initOrder.toList) = "cut".toList :: r) (hl : P.laysLater = false) (hr : P.bearsReflect = false) (hd : P.doorFits [] = true) : P.mayEnter = true:=by
  unfold Program.mayEnter
  rw [h,hl,hr]
  dsimp only
  rw [strip_cut]
  dsimp only
  rw [hd]
  kernel_rfl
theorem behind : behindMainWord (wordsSigns Tryz.prog.initOrder.toList) = "cut".toList :: headWords.drop 3:=(congrArg behindMainWord words).trans (by kernel_rfl)
theorem headMake : Tryz.prog.make = some .cut:=make_cut behind
theorem headMain : Tryz.prog.mainIs = some (true, "e4b84b2879f7caad34e15753fd006bb31144b445cbe47ebddcd28f05597ed10b".toList):=main_har (r:=headWords.drop 2) (words.trans (by kernel_rfl)) (by kernel_rfl)
theorem headMay : Tryz.prog.mayEnter = true:=may_cut behind (by kernel_rfl) (by kernel_rfl) (by kernel_rfl)
theorem headFin : Tryz.prog.liftsFinal = false:=final_cut behind
end Go.Proofs.YtfjlmkifiihgkaaGreatDoor
