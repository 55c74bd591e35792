/- Contracts of the program's functions, each walked once; the conditions stand in each theorem. -/
import Derived.Test.YtfjlmkifiihgkaaGreatDoorAMp6
import Derived.Test.YtfjlmkifiihgkaaGreatDoorW1
import Derived.Test.YtfjlmkifiihgkaaGreatDoorW9
import Derived.Test.YtfjlmkifiihgkaaGreatDoorW2
import Derived.Test.YtfjlmkifiihgkaaGreatDoorW6
import Derived.Test.YtfjlmkifiihgkaaGreatDoorW8
import Derived.Test.YtfjlmkifiihgkaaGreatDoorW5
import Derived.Test.YtfjlmkifiihgkaaGreatDoorW3
import Derived.Test.YtfjlmkifiihgkaaGreatDoorW4
import Derived.Test.YtfjlmkifiihgkaaGreatDoorAMp7
set_option linter.unusedSimpArgs false
set_option linter.unusedVariables false
open Nat renaming reduceLT → Na, reduceLeDiff → Nb, reduceEqDiff → Nc, reduceAdd → Nk, reduceMul → Nf, reducePow → Ng, reduceSub → Nh, reduceBEq → Nz
open Int renaming reduceLT → Za, reduceLE → Zb, reduceToNat → Zc
open And renaming intro → Ai
open Go.AM renaming ashift → Qa, aconv → Qb, aindexAddr → Qc, aindex → Qd, aslice → Qe, abuiltin → Qf, awp_reg_seq → wS, awp_reg_end → wE, awp_seq_k → wK, awp_cond_k → wC
open Go.AM.AV renaming cells → Qg, one → Qh
set_option maxRecDepth 100000
set_option maxHeartbeats 8000000
set_option autoImplicit false
namespace Go.Proofs.YtfjlmkifiihgkaaGreatDoor
open Go Go.AM Go.Proofs
variable {Γ : Nat→List AV}
theorem treeNV (t : List NodeV) : (treeN t).weak (.sl 5 t.length (rowC NodeV.cells t) .any):=by
 unfold treeN
 split
 ·rename_i h
  subst h
  exact AV.weak_nil
 ·exact AV.weak.refl _
theorem treeReadV_calls (hG : Γ 3 = dB64.map u8C) (s : AS) (p : Nat) (st : EyeSt) (hl : st.1.length≤2 ^ 44) (h : s.objs p = some (eyeC st)) :
  ACalls Tryz.prog Γ 103 [.ptr p 0] s (fun r s'=>r = .sl 5 (treeRead st).1.length (rowC NodeV.cells (treeRead st).1) .any∧s' = s.set p (eyeC (treeRead st).2)):=by
 refine ACalls.settle (treeRead_calls hG s p st hl h) ?_
 rintro r s1 ⟨rfl,rfl⟩
 exact ⟨_,_,Settles.weak (treeNV _),rfl,rfl⟩
theorem refTreeReadV_calls (s : AS) (p : Nat) (st : EyeSt) (hl : st.1.length≤2 ^ 44) (h : s.objs p = some (reyeC st)) :
  ACalls Tryz.prog Γ 107 [.ptr p 0] s (fun r s'=>r = .sl 5 (treeRead st).1.length (rowC NodeV.cells (treeRead st).1) .any∧s' = s.set p (reyeC (treeRead st).2)):=by
 refine ACalls.settle (refTreeRead_calls s p st hl h) ?_
 rintro r s1 ⟨rfl,rfl⟩
 exact ⟨_,_,Settles.weak (treeNV _),rfl,rfl⟩
theorem pubRead_calls (hG : Γ 3 = dB64.map u8C) (b : List UInt8) (hb : b.length≤2 ^ 44) (s : AS) : ACalls Tryz.prog Γ 34 [bytesV b .any] s (fun r s'=>r = .tup [.agg (stRead b).1.cells,.v (.int .i64 (stRead b).2)]∧s' = s):=by
 refine acalls_body Tryz.func34 rfl Tryz.ntmps34 Tryz.results34 (by simp) ?_
 obtain ⟨qg,eg⟩ : ∃ q,q = eyeText 1 16 (b,0):=⟨_,rfl⟩
 obtain ⟨qe,ee⟩ : ∃ q,q = eyeNum 8 qg.2:=⟨_,rfl⟩
 obtain ⟨qt,et⟩ : ∃ q,q = treeRead qe.2:=⟨_,rfl⟩
 obtain ⟨qc,ec⟩ : ∃ q,q = eyeText 1 32 qt.2:=⟨_,rfl⟩
 obtain ⟨qi,ei⟩ : ∃ q,q = eyeText 1 32 qc.2:=⟨_,rfl⟩
 have lg : qg.2.1.length≤2 ^ 44:=by rw [eg]; exact Nat.le_trans (eyeText_len _ _ _).2 hb
 have le : qe.2.1.length≤2 ^ 44:=by rw [ee]; exact Nat.le_trans (eyeNum_len _ _) lg
 have lt : qt.2.1.length≤2 ^ 44:=by rw [et]; exact Nat.le_trans (treeRead_left _) le
 have lc : qc.2.1.length≤2 ^ 44:=by rw [ec]; exact Nat.le_trans (eyeText_len _ _ _).2 lt
 have hrr : readSt b = (⟨qg.1,iconv .i64 (qe.1 : Int),qt.1,qc.1,qi.1⟩,qi.2):=by subst ei ec et ee eg; rfl
 have hwf:=readSt_W b
 rw [hrr] at hwf
 simp only at hwf
 refine jQ fun K hK=>?_
 intro o2 ho2
 refine hK _ _ ?_;clear hK K
 refine jQ fun K hK=>?_
 refine acallk (open_set b _ (by omega)) ?_
 rintro r s1 ⟨p,hp,rfl,rfl⟩
 obtain ⟨hp2,hp0⟩:=AS.fresh_set hp
 refine jR hK ?_;clear hK K
 obtain ⟨z,hz⟩ : ∃ z : List AV,z = [.v (.slice none 0 0),.v (.int .i64 0),.v (.slice none 0 0),.v (.slice none 0 0),.v (.slice none 0 0)]:=⟨_,rfl⟩
 rw [← hz]
 refine jQ fun K hK=>?_
 refine acallk (eyeShort_set _ p _ 16 (by simp only; omega) (AS.set_objs_same _ _ _)) ?_
 rintro r s1 ⟨rfl,rfl⟩
 rw [← eg]
 simp only [↓DM,pval,DX,Nz,↓DN,Qa,Qb,Qc,Qd,Qe,Qf,Qg,Qh,reduceCtorEq,↓reduceIte,Na,Nb,Nc,Nk,Nf,Ng,Nh,Za,Zb,Zc,TT]
 refine acallk (eyeU64_set _ p _ (AS.set_objs_same _ _ _)) ?_
 rintro r s1 ⟨rfl,rfl⟩
 rw [← ee]
 simp only [↓DM,pval,DX,Nz,↓DN,Qa,Qb,Qc,Qd,Qe,Qf,Qg,Qh,reduceCtorEq,↓reduceIte,Na,Nb,Nc,Nk,Nf,Ng,Nh,Za,Zb,Zc,TT]
 refine acallk (treeReadV_calls hG _ p _ le (AS.set_objs_same _ _ _)) ?_
 rintro r s1 ⟨rfl,rfl⟩
 rw [← et]
 simp only [↓DM,pval,DX,Nz,↓DN,Qa,Qb,Qc,Qd,Qe,Qf,Qg,Qh,reduceCtorEq,↓reduceIte,Na,Nb,Nc,Nk,Nf,Ng,Nh,Za,Zb,Zc,TT]
 intro o5 ho5
 have h5p : o5≠p:=by
  rintro rfl
  simp at ho5
 have h52 : o5≠o2:=by
  rintro rfl
  simp [hp2.symm] at ho5
 have h50 : s.objs o5 = none:=by simpa [h5p,h52] using ho5
 refine hK _ _ ?_;clear hK K
 have J : RdS (s.set p (eyeC (b,0))) (((s.set o2 z).set p (eyeC qt.2)).set o5 [.sl 1 qg.1.length (qg.1.map byteV) .any,.v (.int .i64 (iconv .i64 (qe.1 : Int))),.sl 5 qt.1.length (rowC NodeV.cells qt.1) .any,.v (.slice none 0 0),.v (.slice none 0 0)]) p o2 o5 (eyeC qt.2) z [.sl 1 qg.1.length (qg.1.map byteV) .any,.v (.int .i64 (iconv .i64 (qe.1 : Int))),.sl 5 qt.1.length (rowC NodeV.cells qt.1) .any,.v (.slice none 0 0),.v (.slice none 0 0)]:=by
  refine ⟨?_,?_,?_,AS.set_objs_same _ _ _,?_,?_,hp2,h5p.symm,h52.symm⟩
  ·rw [AS.drop_set hp0]
   exact AS.le_set (AS.le_set (AS.le_set (AS.le.refl s) ho2 _) hp0 _) h50 _
  ·rw [AS.set_objs_ne _ h5p.symm,AS.set_objs_same]
  ·rw [AS.set_objs_ne _ h52.symm,AS.set_objs_ne _ hp2.symm,AS.set_objs_same]
  ·rw [AS.set_objs_ne _ hp2.symm]; exact ho2
  ·rw [AS.set_objs_ne _ h5p]; exact h50
 refine (fun (k : ∀ (E : Env) (s1 : AS),E 4 = .ptr p 0→E 2 = .ptr o2 0→E 5 = .ptr o5 0→RdS (s.set p (eyeC (b,0))) s1 p o2 o5 (eyeC qt.2) z [.sl 1 qg.1.length (qg.1.map byteV) .any,.v (.int .i64 (iconv .i64 (qe.1 : Int))),.sl 5 qt.1.length (rowC NodeV.cells qt.1) .any,.v (.slice none 0 0),.v (.slice none 0 0)]→_)=>k _ _ (by simp only [upd,Nc,↓reduceIte]) (by simp only [upd,Nc,↓reduceIte]) (by simp only [upd,Nc,↓reduceIte]) J) ?_
 clear J
 intro E s1 g4 g2 g5 J
 have jv:=J.var
 have jp:=J.p3
 have jp2:=J.p3.symm
 refine jS @g4 fun K hK=>?_
 refine acallk (eyeShort_set _ p _ 32 (by have:=lt; omega) J.eye) ?_
 rintro r s2 ⟨rfl,rfl⟩
 rw [← ec]
 simp only [↓DM,pval,DX,Nz,↓DN,Qa,Qb,Qc,Qd,Qe,Qf,Qg,Qh,reduceCtorEq,↓reduceIte,Na,Nb,Nc,Nk,Nf,Ng,Nh,Za,Zb,Zc,TT,g4]
 refine acallk (eyeShort_set _ p _ 32 (by have:=lc; omega) (AS.set_objs_same _ _ _)) ?_
 rintro r s2 ⟨rfl,rfl⟩
 rw [← ei]
 refine jV (Ai @g5 (Ai @jv (Ai @jp @jp2))) hK ?_;clear hK K
 replace J:=(J.setEye (eyeC qi.2)).setVar [.sl 1 qg.1.length (qg.1.map byteV) .any,.v (.int .i64 (iconv .i64 (qe.1 : Int))),.sl 5 qt.1.length (rowC NodeV.cells qt.1) .any,.sl 1 qc.1.length (qc.1.map byteV) .any,.sl 1 qi.1.length (qi.1.map byteV) .any]
 clear jv jp jp2
 generalize (s1.set p (eyeC qi.2)).set o5 [.sl 1 qg.1.length (qg.1.map byteV) .any,.v (.int .i64 (iconv .i64 (qe.1 : Int))),.sl 5 qt.1.length (rowC NodeV.cells qt.1) .any,.sl 1 qc.1.length (qc.1.map byteV) .any,.sl 1 qi.1.length (qi.1.map byteV) .any] = s1 at *
 have jv:=J.var
 have jr:=J.res
 have jd:=J.d
 have jd2:=J.d.symm
 rw [hz] at jr
 have hout : ∀ (c : List AV),s.le (s1.set o2 c):=by
  intro c
  have:=(J.setRes c).le
  rwa [AS.drop_set hp0] at this
 refine wK fun K4 hK4=>?_
 by_cases he : eyeEnd qi.2 = 0
 ·refine jS @g4 fun K hK=>?_
  refine acallk (eyeEnd_at _ p _ J.eye) ?_
  rintro r s3 ⟨rfl,rfl⟩
  refine jR hK ?_;clear hK K
  refine jB (Ai @he (i64_ne_false 0 rfl)) ?_
  refine jF ?_
  refine awp_skip ?_
  refine hK4 _ _ ?_;clear hK4 K4
  refine wK fun K6 hK6=>?_
  refine jS (Ai @g5 @jv) fun K hK=>?_
  refine acallk (pubRight_calls hG (S:=⟨qg.1,iconv .i64 (qe.1 : Int),qt.1,qc.1,qi.1⟩) hwf _) ?_
  rintro r s4 ⟨rfl,rfl⟩
  by_cases hr : StV.right ⟨qg.1,iconv .i64 (qe.1 : Int),qt.1,qc.1,qi.1⟩
  ·rw [decide_eq_true hr]
   refine jR hK ?_;clear hK K
   refine jF ?_
   refine awp_skip ?_
   refine hK6 _ _ ?_;clear hK6 K6
   refine jB (Ai @g5 (Ai @g2 (Ai @jv (Ai @jr (Ai @jd @jd2))))) ?_
   refine awp_ret ?_
   refine aends_cell_tmp (o:=o2) (off:=0) (by simp only [upd,g2,Nc,↓reduceIte]) (AS.set_objs_same _ _ _) (by rw [T.c48]; decide) (by simp only [↓DN,Qa,Qb,Qc,Qd,Qe,Qf,Qg,Qh,reduceCtorEq,↓reduceIte,Na,Nb,Nc,Nk,Nf,Ng,Nh,Za,Zb,Zc,TT]; rfl) ?_
   rw [show stRead b = (⟨qg.1,iconv .i64 (qe.1 : Int),qt.1,qc.1,qi.1⟩,0) from by unfold stRead; rw [hrr]; exact (if_pos he).trans (if_pos hr)]
   exact ⟨_,s,AV.weak.refl _,hout _,rfl,rfl⟩
  ·rw [decide_eq_false hr]
   refine jR hK ?_;clear hK K
   refine jE ?_
   refine jB (Ai @g2 @jr) ?_
   refine awp_ret ?_
   refine aends_cell_tmp (o:=o2) (off:=0) (by simp only [upd,g2,Nc,↓reduceIte]) (AS.set_objs_same _ _ _) (by rw [T.c48]; decide) (by simp only [↓DN,Qa,Qb,Qc,Qd,Qe,Qf,Qg,Qh,reduceCtorEq,↓reduceIte,Na,Nb,Nc,Nk,Nf,Ng,Nh,Za,Zb,Zc,TT]; rfl) ?_
   rw [show stRead b = (StV.nought,12) from by unfold stRead; rw [hrr]; exact (if_pos he).trans (if_neg hr)]
   exact ⟨_,s,AV.weak_tup2 noughtS_weak (AV.weak.refl _),hout _,rfl,rfl⟩
 ·refine jS @g4 fun K hK=>?_
  refine acallk (eyeEnd_at _ p _ J.eye) ?_
  rintro r s3 ⟨rfl,rfl⟩
  refine jR hK ?_;clear hK K
  refine jB (i64_ne_true _ he) ?_
  refine jE ?_
  refine jB (Ai @g2 @jr) ?_
  refine awp_ret ?_
  refine aends_cell_tmp (o:=o2) (off:=0) (by simp only [upd,g2,Nc,↓reduceIte]) (AS.set_objs_same _ _ _) (by rw [T.c48]; decide) (by simp only [↓DN,Qa,Qb,Qc,Qd,Qe,Qf,Qg,Qh,reduceCtorEq,↓reduceIte,Na,Nb,Nc,Nk,Nf,Ng,Nh,Za,Zb,Zc,TT]; rfl) ?_
  rw [show stRead b = (StV.nought,eyeEnd qi.2) from by unfold stRead; rw [hrr]; exact if_neg he]
  exact ⟨_,s,AV.weak_tup2 noughtS_weak (AV.weak.refl _),hout _,rfl,rfl⟩
theorem refPubRead_calls (b : List UInt8) (hb : b.length≤2 ^ 44) (s : AS) : ACalls Tryz.prog Γ 35 [.v (.string ⟨b.toArray⟩)] s (fun r s'=>r = .tup [.agg (stRead b).1.cells,.v (.int .i64 (stRead b).2)]∧s' = s):=by
 refine acalls_body Tryz.func35 rfl Tryz.ntmps35 Tryz.results35 (by simp) ?_
 obtain ⟨qg,eg⟩ : ∃ q,q = eyeText 1 16 (b,0):=⟨_,rfl⟩
 obtain ⟨qe,ee⟩ : ∃ q,q = eyeNum 8 qg.2:=⟨_,rfl⟩
 obtain ⟨qt,et⟩ : ∃ q,q = treeRead qe.2:=⟨_,rfl⟩
 obtain ⟨qc,ec⟩ : ∃ q,q = eyeText 1 32 qt.2:=⟨_,rfl⟩
 obtain ⟨qi,ei⟩ : ∃ q,q = eyeText 1 32 qc.2:=⟨_,rfl⟩
 have lg : qg.2.1.length≤2 ^ 44:=by rw [eg]; exact Nat.le_trans (eyeText_len _ _ _).2 hb
 have le : qe.2.1.length≤2 ^ 44:=by rw [ee]; exact Nat.le_trans (eyeNum_len _ _) lg
 have lt : qt.2.1.length≤2 ^ 44:=by rw [et]; exact Nat.le_trans (treeRead_left _) le
 have lc : qc.2.1.length≤2 ^ 44:=by rw [ec]; exact Nat.le_trans (eyeText_len _ _ _).2 lt
 have hrr : readSt b = (⟨qg.1,iconv .i64 (qe.1 : Int),qt.1,qc.1,qi.1⟩,qi.2):=by subst ei ec et ee eg; rfl
 have hwf:=readSt_W b
 rw [hrr] at hwf
 simp only at hwf
 refine jQ fun K hK=>?_
 intro o2 ho2
 refine hK _ _ ?_;clear hK K
 refine jQ fun K hK=>?_
 intro p hp
 refine hK _ _ ?_;clear hK K
 obtain ⟨hp2,hp0⟩:=AS.fresh_set hp
 obtain ⟨z,hz⟩ : ∃ z : List AV,z = [.v (.slice none 0 0),.v (.int .i64 0),.v (.slice none 0 0),.v (.slice none 0 0),.v (.slice none 0 0)]:=⟨_,rfl⟩
 rw [← hz]
 refine jQ fun K hK=>?_
 intro o5 ho5
 have h5p : o5≠p:=by
  rintro rfl
  simp at ho5
 have h52 : o5≠o2:=by
  rintro rfl
  simp [hp2.symm] at ho5
 have h50 : s.objs o5 = none:=by simpa [h5p,h52] using ho5
 refine hK _ _ ?_;clear hK K
 have J : RdS (s.set p (reyeC (b,0))) (((s.set o2 z).set p (reyeC (b,0))).set o5 z) p o2 o5 (reyeC (b,0)) z z:=by
  refine ⟨?_,?_,?_,AS.set_objs_same _ _ _,?_,?_,hp2,h5p.symm,h52.symm⟩
  ·rw [AS.drop_set hp0]
   exact AS.le_set (AS.le_set (AS.le_set (AS.le.refl s) ho2 _) hp0 _) h50 _
  ·rw [AS.set_objs_ne _ h5p.symm,AS.set_objs_same]
  ·rw [AS.set_objs_ne _ h52.symm,AS.set_objs_ne _ hp2.symm,AS.set_objs_same]
  ·rw [AS.set_objs_ne _ hp2.symm]; exact ho2
  ·rw [AS.set_objs_ne _ h5p]; exact h50
 refine (fun (k : ∀ (E : Env) (s1 : AS),E 4 = .ptr p 0→E 2 = .ptr o2 0→E 5 = .ptr o5 0→RdS (s.set p (reyeC (b,0))) s1 p o2 o5 (reyeC (b,0)) z z→_)=>k _ _ (by simp only [upd,Nc,↓reduceIte]) (by simp only [upd,Nc,↓reduceIte]) (by simp only [upd,Nc,↓reduceIte]) (by rw [hz] at J ⊢; exact J)) ?_
 clear J
 intro E s1 g4 g2 g5 J
 have jp:=J.p3
 have jp2:=J.p3.symm
 have jv:=J.var
 rw [hz] at jv
 refine jS @g4 fun K hK=>?_
 refine acallk (reyeText_set _ p _ 1 16 (by omega) (by simp only; omega) J.eye) ?_
 rintro r s2 ⟨rfl,rfl⟩
 rw [← eg]
 refine jV (Ai @g5 (Ai @jv (Ai @jp @jp2))) hK ?_;clear hK K
 replace J:=(J.setEye (reyeC qg.2)).setVar [.sl 1 qg.1.length (qg.1.map byteV) .no,.v (.int .i64 0),.v (.slice none 0 0),.v (.slice none 0 0),.v (.slice none 0 0)]
 generalize (s1.set p (reyeC qg.2)).set o5 [.sl 1 qg.1.length (qg.1.map byteV) .no,.v (.int .i64 0),.v (.slice none 0 0),.v (.slice none 0 0),.v (.slice none 0 0)] = s1 at *
 refine awp_tells (AS.tells_obj (cs':=[.sl 1 qg.1.length (qg.1.map byteV) .any,.v (.int .i64 0),.v (.slice none 0 0),.v (.slice none 0 0),.v (.slice none 0 0)]) J.var (.cons AV.weak_any (AVs.weak.refl _))) ?_
 replace J:=J.setVar [.sl 1 qg.1.length (qg.1.map byteV) .any,.v (.int .i64 0),.v (.slice none 0 0),.v (.slice none 0 0),.v (.slice none 0 0)]
 generalize s1.set o5 [.sl 1 qg.1.length (qg.1.map byteV) .any,.v (.int .i64 0),.v (.slice none 0 0),.v (.slice none 0 0),.v (.slice none 0 0)] = s1 at *
 clear jv
 have jv:=J.var
 refine jS @g4 fun K hK=>?_
 refine acallk (reyeNumber_set _ p _ 8 (by omega) (by omega) J.eye) ?_
 rintro r s2 ⟨rfl,rfl⟩
 rw [← ee]
 refine jV (Ai @g5 (Ai @jv (Ai @jp @jp2))) hK ?_;clear hK K
 replace J:=(J.setEye (reyeC qe.2)).setVar [.sl 1 qg.1.length (qg.1.map byteV) .any,.v (.int .i64 (iconv .i64 (qe.1 : Int))),.v (.slice none 0 0),.v (.slice none 0 0),.v (.slice none 0 0)]
 generalize (s1.set p (reyeC qe.2)).set o5 [.sl 1 qg.1.length (qg.1.map byteV) .any,.v (.int .i64 (iconv .i64 (qe.1 : Int))),.v (.slice none 0 0),.v (.slice none 0 0),.v (.slice none 0 0)] = s1 at *
 clear jv
 have jv:=J.var
 refine jS @g4 fun K hK=>?_
 refine acallk (refTreeReadV_calls _ p _ le J.eye) ?_
 rintro r s2 ⟨rfl,rfl⟩
 rw [← et]
 refine jV (Ai @g5 (Ai @jv (Ai @jp @jp2))) hK ?_;clear hK K
 replace J:=(J.setEye (reyeC qt.2)).setVar [.sl 1 qg.1.length (qg.1.map byteV) .any,.v (.int .i64 (iconv .i64 (qe.1 : Int))),.sl 5 qt.1.length (rowC NodeV.cells qt.1) .any,.v (.slice none 0 0),.v (.slice none 0 0)]
 generalize (s1.set p (reyeC qt.2)).set o5 [.sl 1 qg.1.length (qg.1.map byteV) .any,.v (.int .i64 (iconv .i64 (qe.1 : Int))),.sl 5 qt.1.length (rowC NodeV.cells qt.1) .any,.v (.slice none 0 0),.v (.slice none 0 0)] = s1 at *
 clear jv
 have jv:=J.var
 refine jS @g4 fun K hK=>?_
 refine acallk (reyeText_set _ p _ 1 32 (by omega) (by omega) J.eye) ?_
 rintro r s2 ⟨rfl,rfl⟩
 rw [← ec]
 refine jV (Ai @g5 (Ai @jv (Ai @jp @jp2))) hK ?_;clear hK K
 replace J:=(J.setEye (reyeC qc.2)).setVar [.sl 1 qg.1.length (qg.1.map byteV) .any,.v (.int .i64 (iconv .i64 (qe.1 : Int))),.sl 5 qt.1.length (rowC NodeV.cells qt.1) .any,.sl 1 qc.1.length (qc.1.map byteV) .no,.v (.slice none 0 0)]
 generalize (s1.set p (reyeC qc.2)).set o5 [.sl 1 qg.1.length (qg.1.map byteV) .any,.v (.int .i64 (iconv .i64 (qe.1 : Int))),.sl 5 qt.1.length (rowC NodeV.cells qt.1) .any,.sl 1 qc.1.length (qc.1.map byteV) .no,.v (.slice none 0 0)] = s1 at *
 refine awp_tells (AS.tells_obj (cs':=[.sl 1 qg.1.length (qg.1.map byteV) .any,.v (.int .i64 (iconv .i64 (qe.1 : Int))),.sl 5 qt.1.length (rowC NodeV.cells qt.1) .any,.sl 1 qc.1.length (qc.1.map byteV) .any,.v (.slice none 0 0)]) J.var (.cons (AV.weak.refl _) (.cons (AV.weak.refl _) (.cons (AV.weak.refl _) (.cons AV.weak_any (AVs.weak.refl _)))))) ?_
 replace J:=J.setVar [.sl 1 qg.1.length (qg.1.map byteV) .any,.v (.int .i64 (iconv .i64 (qe.1 : Int))),.sl 5 qt.1.length (rowC NodeV.cells qt.1) .any,.sl 1 qc.1.length (qc.1.map byteV) .any,.v (.slice none 0 0)]
 generalize s1.set o5 [.sl 1 qg.1.length (qg.1.map byteV) .any,.v (.int .i64 (iconv .i64 (qe.1 : Int))),.sl 5 qt.1.length (rowC NodeV.cells qt.1) .any,.sl 1 qc.1.length (qc.1.map byteV) .any,.v (.slice none 0 0)] = s1 at *
 clear jv
 have jv:=J.var
 refine jS @g4 fun K hK=>?_
 refine acallk (reyeText_set _ p _ 1 32 (by omega) (by omega) J.eye) ?_
 rintro r s2 ⟨rfl,rfl⟩
 rw [← ei]
 refine jV (Ai @g5 (Ai @jv (Ai @jp @jp2))) hK ?_;clear hK K
 replace J:=(J.setEye (reyeC qi.2)).setVar [.sl 1 qg.1.length (qg.1.map byteV) .any,.v (.int .i64 (iconv .i64 (qe.1 : Int))),.sl 5 qt.1.length (rowC NodeV.cells qt.1) .any,.sl 1 qc.1.length (qc.1.map byteV) .any,.sl 1 qi.1.length (qi.1.map byteV) .no]
 generalize (s1.set p (reyeC qi.2)).set o5 [.sl 1 qg.1.length (qg.1.map byteV) .any,.v (.int .i64 (iconv .i64 (qe.1 : Int))),.sl 5 qt.1.length (rowC NodeV.cells qt.1) .any,.sl 1 qc.1.length (qc.1.map byteV) .any,.sl 1 qi.1.length (qi.1.map byteV) .no] = s1 at *
 refine awp_tells (AS.tells_obj (cs':=[.sl 1 qg.1.length (qg.1.map byteV) .any,.v (.int .i64 (iconv .i64 (qe.1 : Int))),.sl 5 qt.1.length (rowC NodeV.cells qt.1) .any,.sl 1 qc.1.length (qc.1.map byteV) .any,.sl 1 qi.1.length (qi.1.map byteV) .any]) J.var (.cons (AV.weak.refl _) (.cons (AV.weak.refl _) (.cons (AV.weak.refl _) (.cons (AV.weak.refl _) (.cons AV.weak_any .nil)))))) ?_
 replace J:=J.setVar [.sl 1 qg.1.length (qg.1.map byteV) .any,.v (.int .i64 (iconv .i64 (qe.1 : Int))),.sl 5 qt.1.length (rowC NodeV.cells qt.1) .any,.sl 1 qc.1.length (qc.1.map byteV) .any,.sl 1 qi.1.length (qi.1.map byteV) .any]
 generalize s1.set o5 [.sl 1 qg.1.length (qg.1.map byteV) .any,.v (.int .i64 (iconv .i64 (qe.1 : Int))),.sl 5 qt.1.length (rowC NodeV.cells qt.1) .any,.sl 1 qc.1.length (qc.1.map byteV) .any,.sl 1 qi.1.length (qi.1.map byteV) .any] = s1 at *
 clear jv
 have jv:=J.var
 clear jv jp jp2
 have jv:=J.var
 have jr:=J.res
 have jd:=J.d
 have jd2:=J.d.symm
 rw [hz] at jr
 have hout : ∀ (c : List AV),s.le (s1.set o2 c):=by
  intro c
  have:=(J.setRes c).le
  rwa [AS.drop_set hp0] at this
 refine wK fun K4 hK4=>?_
 by_cases he : eyeEnd qi.2 = 0
 ·refine jS @g4 fun K hK=>?_
  refine acallk (reyeEnd_at _ p _ J.eye) ?_
  rintro r s3 ⟨rfl,rfl⟩
  refine jV (Ai @he (i64_ne_false 0 rfl)) hK ?_;clear hK K
  refine jF ?_
  refine awp_skip ?_
  refine hK4 _ _ ?_;clear hK4 K4
  refine wK fun K6 hK6=>?_
  refine jS (Ai @g5 @jv) fun K hK=>?_
  refine acallk (refPubRight_calls (S:=⟨qg.1,iconv .i64 (qe.1 : Int),qt.1,qc.1,qi.1⟩) hwf _) ?_
  rintro r s4 ⟨rfl,rfl⟩
  by_cases hr : StV.right ⟨qg.1,iconv .i64 (qe.1 : Int),qt.1,qc.1,qi.1⟩
  ·rw [decide_eq_true hr]
   refine jR hK ?_;clear hK K
   refine jF ?_
   refine awp_skip ?_
   refine hK6 _ _ ?_;clear hK6 K6
   refine jB (Ai @g5 (Ai @g2 (Ai @jv (Ai @jr (Ai @jd @jd2))))) ?_
   refine awp_ret ?_
   refine aends_cell_tmp (o:=o2) (off:=0) (by simp only [upd,g2,Nc,↓reduceIte]) (AS.set_objs_same _ _ _) (by rw [T.c48]; decide) (by simp only [↓DN,Qa,Qb,Qc,Qd,Qe,Qf,Qg,Qh,reduceCtorEq,↓reduceIte,Na,Nb,Nc,Nk,Nf,Ng,Nh,Za,Zb,Zc,TT]; rfl) ?_
   rw [show stRead b = (⟨qg.1,iconv .i64 (qe.1 : Int),qt.1,qc.1,qi.1⟩,0) from by unfold stRead; rw [hrr]; exact (if_pos he).trans (if_pos hr)]
   exact ⟨_,s,AV.weak.refl _,hout _,rfl,rfl⟩
  ·rw [decide_eq_false hr]
   refine jR hK ?_;clear hK K
   refine jE ?_
   refine jB (Ai @g2 @jr) ?_
   refine awp_ret ?_
   refine aends_cell_tmp (o:=o2) (off:=0) (by simp only [upd,g2,Nc,↓reduceIte]) (AS.set_objs_same _ _ _) (by rw [T.c48]; decide) (by simp only [↓DN,Qa,Qb,Qc,Qd,Qe,Qf,Qg,Qh,reduceCtorEq,↓reduceIte,Na,Nb,Nc,Nk,Nf,Ng,Nh,Za,Zb,Zc,TT]; rfl) ?_
   rw [show stRead b = (StV.nought,12) from by unfold stRead; rw [hrr]; exact (if_pos he).trans (if_neg hr)]
   exact ⟨_,s,AV.weak_tup2 noughtS_weak (AV.weak.refl _),hout _,rfl,rfl⟩
 ·refine jS @g4 fun K hK=>?_
  refine acallk (reyeEnd_at _ p _ J.eye) ?_
  rintro r s3 ⟨rfl,rfl⟩
  refine jV (i64_ne_true _ he) hK ?_;clear hK K
  refine jE ?_
  refine jS @g4 fun K hK=>?_
  refine acallk (reyeEnd_at _ p _ J.eye) ?_
  rintro r s3 ⟨rfl,rfl⟩
  refine jV (Ai @g2 @jr) hK ?_;clear hK K
  refine awp_ret ?_
  refine aends_cell_tmp (o:=o2) (off:=0) (by simp only [upd,g2,Nc,↓reduceIte]) (AS.set_objs_same _ _ _) (by rw [T.c48]; decide) (by simp only [↓DN,Qa,Qb,Qc,Qd,Qe,Qf,Qg,Qh,reduceCtorEq,↓reduceIte,Na,Nb,Nc,Nk,Nf,Ng,Nh,Za,Zb,Zc,TT]; rfl) ?_
  rw [show stRead b = (StV.nought,eyeEnd qi.2) from by unfold stRead; rw [hrr]; exact if_neg he]
  exact ⟨_,s,AV.weak_tup2 noughtS_weak (AV.weak.refl _),hout _,rfl,rfl⟩
end Go.Proofs.YtfjlmkifiihgkaaGreatDoor
namespace Go.Proofs.YtfjlmkifiihgkaaGreatDoor
open Go Go.AM Go.Proofs
variable {Γ : Nat→List AV}
theorem clone20V_calls (t : List NodeV) (ht : t.length≤2 ^ 30) (hw : ∀ n ∈ t,NodeW n) (s : AS) : ACalls Tryz.prog Γ 69 [treeV t] s (fun r s'=>r = treeV t∧s' = s):=by
  refine ACalls.settle (clone20_calls t ht hw s) ?_
  rintro r s1 ⟨TS,hT,hO⟩
  obtain ⟨s2,k1,k2⟩:=hO.settle (Γ:=Γ)
  rw [hT] at k1
  exact ⟨s,_,k1.trans (Settles.le _ k2),rfl,rfl⟩
end Go.Proofs.YtfjlmkifiihgkaaGreatDoor
namespace Go.Proofs.YtfjlmkifiihgkaaGreatDoor
open Go Go.AM Go.Proofs
variable {Γ : Nat→List AV}
theorem pub_bool (n : Nat) : (decide (2≤(n : Int)) && decide ((n : Int)≤2305843009213693949)) = decide (Pub n):=by
 rw [← Bool.decide_and]
 apply decide_eq_decide.2
 unfold Pub
 omega
theorem rightP_calls (n : Nat) (s : AS) : ACalls Tryz.prog Γ 141 [.v (.int .u64 n)] s (fun r s'=>r = .v (.bool (decide (Pub n)))∧s' = s):=by
 have:=powerRight_calls (Γ:=Γ) n s
 rwa [pub_bool] at this
theorem named_calls (l : List UInt8) (s : AS) : ACalls Tryz.prog Γ 157 [bytesV l .any] s (fun r s'=>r = .v (.bool (decide (1≤l.length∧l.length≤16)))∧s' = s):=by
 refine acalls_body Tryz.func157 rfl Tryz.ntmps157 Tryz.results157 (by simp) ?_
 refine jA ?_
 rcases ff2 (decide ((1 : Int)≤(l.length : Int))) (decide ((l.length : Int)≤16)) with hd | hd | hd
 all_goals
  refine jB @hd ?_
  refine jI ?_
  refine ⟨_,_,AV.weak.refl _,AS.le.refl _,?_,rfl⟩
  simp only [decide_eq_true_eq,decide_eq_false_iff_not] at hd
  congr 2
  first
   | exact (decide_eq_true (by omega)).symm
   | exact (decide_eq_false (by omega)).symm
theorem leaf_calls (n : Int) (s : AS) : ACalls Tryz.prog Γ 158 [.v (.int .i64 n)] s (fun r s'=>r = .v (.bool (decide (0≤n∧n < 32)))∧s' = s):=by
 refine acalls_body Tryz.func158 rfl Tryz.ntmps158 Tryz.results158 (by simp) ?_
 refine jA ?_
 rcases ff2 (decide (0≤n)) (decide (n < 32)) with hd | hd | hd
 all_goals
  refine jB @hd ?_
  refine jI ?_
  refine ⟨_,_,AV.weak.refl _,AS.le.refl _,?_,rfl⟩
  simp only [decide_eq_true_eq,decide_eq_false_iff_not] at hd
  congr 2
  first
   | exact (decide_eq_true (by omega)).symm
   | exact (decide_eq_false (by omega)).symm
theorem yesI {a b : Int} (h : a = b) : (a == b) = true:=by simpa using h
theorem notI {a b : Int} (h : a≠b) : (a == b) = false:=by simpa using h
theorem nat0 {a : Nat} (h : a = 0) : ((a : Int) == 0) = true:=by subst h; rfl
theorem nat0F {a : Nat} (h : a≠0) : ((a : Int) == 0) = false:=by simpa using h
theorem natN {a k : Nat} (h : a = k) : ((a : Int) == (k : Int)) = true:=by subst h; simp
theorem proper_calls (p : PropV) (s : AS) : ACalls Tryz.prog Γ 156 [.agg p.cells] s (fun r s'=>r = .v (.bool (decide p.right))∧s' = s):=by
 refine acalls_body Tryz.func156 rfl Tryz.ntmps156 Tryz.results156 (by simp) ?_
 obtain ⟨k,l,nm,key,ini⟩:=p
 unfold PropV.cells
 refine awp_reg_frz 1 (by simp [dsts]) ?_
 intro K hK
 simp only [↓DM,pval,DX,Nz,↓DN,Qa,Qb,Qc,Qd,Qe,Qf,Qg,Qh,reduceCtorEq,↓reduceIte,Na,Nb,Nc,Nk,Nf,Ng,Nh,Za,Zb,Zc,TT]
 intro o ho
 refine hK _ _ o _ (by simp only [upd,Nc,↓reduceIte]) ho ?_
 clear hK K ho
 refine wK fun K hK=>?_
 refine jA ?_
 refine awp_block ?_
 by_cases hk1 : k = 1
 ·refine jB (yesI hk1) ?_
  refine jE ?_
  by_cases h1 : l = 0
  ·refine jS (yesI h1) fun K hK=>?_
   refine acallk (named_calls nm _) ?_
   rintro r s1 ⟨rfl,rfl⟩
   by_cases h2 : 1≤nm.length∧nm.length≤16
   ·simp only [↓DM,pval,DX,Nz,↓DN,Qa,Qb,Qc,Qd,Qe,Qf,Qg,Qh,reduceCtorEq,↓reduceIte,Na,Nb,Nc,Nk,Nf,Ng,Nh,Za,Zb,Zc,TT,decide_eq_true h2]
    refine acallk (rightP_calls key _) ?_
    rintro r s2 ⟨rfl,rfl⟩
    by_cases h3 : Pub key
    ·simp only [↓DM,pval,DX,Nz,↓DN,Qa,Qb,Qc,Qd,Qe,Qf,Qg,Qh,reduceCtorEq,↓reduceIte,Na,Nb,Nc,Nk,Nf,Ng,Nh,Za,Zb,Zc,TT,decide_eq_true h3]
     refine acallk (rightP_calls ini _) ?_
     rintro r s3 ⟨rfl,rfl⟩
     refine jR hK ?_;clear hK K
     refine jI ?_
     exact ⟨_,_,AV.weak.refl _,AS.le.refl _,by simp [PropV.right,hk1,h1,h2,h3],rfl⟩
    ·refine jV (decide_eq_false h3) hK ?_;clear hK K
     refine jI ?_
     exact ⟨_,_,AV.weak.refl _,AS.le.refl _,by simp [PropV.right,hk1,h3],rfl⟩
   ·refine jV (decide_eq_false h2) hK ?_;clear hK K
    refine jI ?_
    exact ⟨_,_,AV.weak.refl _,AS.le.refl _,by simp [PropV.right,hk1]; omega,rfl⟩
  ·refine jB (notI h1) ?_
   refine jI ?_
   exact ⟨_,_,AV.weak.refl _,AS.le.refl _,by simp [PropV.right,hk1,h1],rfl⟩
 ·refine jB (notI hk1) ?_
  refine jF ?_
  by_cases hk2 : k = 2
  ·refine jB (yesI hk2) ?_
   refine jE ?_
   refine jQ fun K hK=>?_
   refine acallk (leaf_calls l _) ?_
   rintro r s1 ⟨rfl,rfl⟩
   by_cases h1 : 0≤l∧l < 32
   ·by_cases h2 : nm.length = 0
    ·simp only [↓DM,pval,DX,Nz,↓DN,Qa,Qb,Qc,Qd,Qe,Qf,Qg,Qh,reduceCtorEq,↓reduceIte,Na,Nb,Nc,Nk,Nf,Ng,Nh,Za,Zb,Zc,TT,decide_eq_true h1,nat0 h2]
     refine acallk (rightP_calls key _) ?_
     rintro r s2 ⟨rfl,rfl⟩
     by_cases h3 : Pub key
     ·by_cases h4 : ini = 0
      ·refine jV (Ai (decide_eq_true h3) (nat0 h4)) hK ?_;clear hK K
       refine jI ?_
       exact ⟨_,_,AV.weak.refl _,AS.le.refl _,by simp [PropV.right,hk2,h1,h3,h4,List.eq_nil_of_length_eq_zero h2],rfl⟩
      ·refine jV (Ai (decide_eq_true h3) (nat0F h4)) hK ?_;clear hK K
       refine jI ?_
       exact ⟨_,_,AV.weak.refl _,AS.le.refl _,by simp [PropV.right,hk2,h4],rfl⟩
     ·refine jV (decide_eq_false h3) hK ?_;clear hK K
      refine jI ?_
      exact ⟨_,_,AV.weak.refl _,AS.le.refl _,by simp [PropV.right,hk2,h3],rfl⟩
    ·refine jV (Ai (decide_eq_true h1) (nat0F h2)) hK ?_;clear hK K
     refine jI ?_
     exact ⟨_,_,AV.weak.refl _,AS.le.refl _,by simp [PropV.right,hk2]; intro _ _ h; exact absurd (by simp [h]) h2,rfl⟩
   ·refine jV (decide_eq_false h1) hK ?_;clear hK K
    refine jI ?_
    exact ⟨_,_,AV.weak.refl _,AS.le.refl _,by simp [PropV.right,hk2]; omega,rfl⟩
  ·refine jB (notI hk2) ?_
   refine jF ?_
   by_cases hk3 : k = 3
   ·refine jB (yesI hk3) ?_
    refine jE ?_
    refine jQ fun K hK=>?_
    refine acallk (leaf_calls l _) ?_
    rintro r s1 ⟨rfl,rfl⟩
    by_cases h1 : 0≤l∧l < 32
    ·rcases ff3 ((nm.length : Int) == 0) ((key : Int) == 0) ((ini : Int) == 0) with hd | hd | hd | hd
     all_goals
      refine jV (Ai (decide_eq_true h1) @hd) hK ?_;clear hK K
      refine jI ?_
      refine ⟨_,_,AV.weak.refl _,AS.le.refl _,?_,rfl⟩
      simp only [beq_iff_eq,beq_eq_false_iff_ne,ne_eq] at hd
      congr 2
      symm
      first
       | exact decide_eq_true (by unfold PropV.right; simp only; omega)
       | exact decide_eq_false (by unfold PropV.right; simp only; omega)
    ·refine jV (decide_eq_false h1) hK ?_;clear hK K
     refine jI ?_
     exact ⟨_,_,AV.weak.refl _,AS.le.refl _,by simp [PropV.right,hk3]; omega,rfl⟩
   ·refine jB (notI hk3) ?_
    refine jF ?_
    refine awp_skip ?_
    simp only [blockQ,thenQ,if_true,if_false]
    refine hK _ _ ?_;clear hK K
    refine jA ?_
    refine jI ?_
    exact ⟨_,_,AV.weak.refl _,AS.le.refl _,by simp [PropV.right,hk1,hk2,hk3],rfl⟩
end Go.Proofs.YtfjlmkifiihgkaaGreatDoor
namespace Go.Proofs.YtfjlmkifiihgkaaGreatDoor
open Go Go.AM Go.Proofs
variable {Γ : Nat→List AV}
theorem neI {a b : Int} (h : a≠b) : (a != b) = true:=by simpa using h
theorem eqI {a b : Int} (h : a = b) : (a != b) = false:=by simpa using h
end Go.Proofs.YtfjlmkifiihgkaaGreatDoor
namespace Go.Proofs.YtfjlmkifiihgkaaGreatDoor
open Go Go.AM Go.Proofs
variable {Γ : Nat→List AV}
theorem take_all {α : Type} {Q : α→Prop} {l : List α} {i : Nat} (h : i < l.length) (hall : ∀ x ∈ l.take i,Q x) (hx : Q l[i]) : ∀ x ∈ l.take (i + 1),Q x:=by
 rw [List.take_succ_eq_append_getElem h]
 intro p hp
 rcases List.mem_append.1 hp with hp | hp
 ·exact hall p hp
 ·simp only [List.mem_singleton] at hp
  subst hp
  exact hx
theorem take_full {α : Type} {Q : α→Prop} {l : List α} {i : Nat} (h : ¬ i < l.length) (hall : ∀ x ∈ l.take i,Q x) : ∀ x ∈ l,Q x:=by
 rwa [List.take_of_length_le (by omega)] at hall
theorem eye_succM (i : Nat) (h : i < 9223372036854775807) : iadd .i64 (i : Int) 1 = ((i + 1 : Nat) : Int):=by
 rw [iadd_i64 (by omega)]
 rfl
theorem n48 {n : Nat} (h : n = 48) : ((n : Int) != 48) = false:=by subst h; rfl
theorem n48T {n : Nat} (h : n≠48) : ((n : Int) != 48) = true:=by simp only [bne_iff_ne,ne_eq]; omega
theorem step_calls (p : StepV) (hl : p.seals.length≤9223372036854775807) (s : AS) : ACalls Tryz.prog Γ 220 [.agg p.cells] s (fun r s'=>r = .v (.bool (decide p.right))∧s' = s):=by
 refine acalls_body Tryz.func220 rfl Tryz.ntmps220 Tryz.results220 (by simp) ?_
 obtain ⟨key,ss⟩:=p
 simp only at hl
 unfold StepV.cells
 have hrow:=fun i (h : i < ss.length)=>row_at (c:=SealV.cells) (k:=2) (fun _=>rfl) h
 generalize hX : rowC SealV.cells ss = X at *
 refine awp_reg_frz 1 (by simp [dsts]) ?_
 intro K hK
 simp only [↓DM,pval,DX,Nz,↓DN,Qa,Qb,Qc,Qd,Qe,Qf,Qg,Qh,reduceCtorEq,↓reduceIte,Na,Nb,Nc,Nk,Nf,Ng,Nh,Za,Zb,Zc,TT]
 intro o ho
 refine hK _ _ o _ (by simp only [upd,Nc,↓reduceIte]) ho ?_
 clear hK K ho
 refine wK fun K hK=>?_
 refine jA ?_
 refine awp_block ?_
 refine awp_loop (fun E s1=>∃ i : Nat,i≤ss.length∧E 8 = .v (.int .i64 i)∧E 7 = .v (.int .i64 ss.length)∧E 6 = .sl 2 ss.length X .any∧E 1 = .rop [.v (.int .u64 key),.sl 2 ss.length X .any]∧(∀ p ∈ ss.take i,p.right)∧s1 = s)
  (fun E _=>match E 8 with | .v (.int _ i)=>ss.length - i.toNat | _=>0) ?_ ?_
 ·exact ⟨0,Nat.zero_le _,by simp only [upd,↓reduceIte]; rfl,by simp only [upd,Nc,↓reduceIte],by simp only [upd,Nc,↓reduceIte],by simp only [upd,Nc,↓reduceIte],by simp,rfl⟩
 ·rintro E1 s1 ⟨i,hi,g8,g7,g6,g1,hall,rfl⟩ -
  by_cases hi' : i < ss.length
  ·refine jB (Ai @g8 (Ai @g7 (Ai @eye_lt_nat (decide_eq_true hi')))) ?_
   refine wK fun K3 hK3=>?_
   refine jE ?_
   refine awp_skip ?_
   refine hK3 _ _ ?_;clear hK3 K3
   refine wK fun K3 hK3=>?_
   refine awp_block ?_
   have hat:=hrow i hi'
   have hge : (0 : Int)≤(i : Int):=by omega
   obtain ⟨y,hy⟩ : ∃ y,y = ss[i]:=⟨_,rfl⟩
   rw [← hy] at hat
   have hym : y ∈ ss:=by rw [hy]; exact List.getElem_mem hi'
   have htk : y.right→∀ x ∈ ss.take (i + 1),x.right:=fun h=>take_all hi' hall (by rw [← hy]; exact h)
   have hbad : ¬ y.right→decide (StepV.right ⟨key,ss⟩) = false:=fun h=>decide_eq_false fun hr=>h (hr.1 y hym)
   clear hy
   obtain ⟨f,t⟩:=y
   unfold SealV.cells at hat
   refine awp_reg_frz 4 (by simp [dsts]) ?_
   intro K2 hK2
   simp only [↓DM,pval,DX,Nz,↓DN,Qa,Qb,Qc,Qd,Qe,Qf,Qg,Qh,reduceCtorEq,↓reduceIte,Na,Nb,Nc,Nk,Nf,Ng,Nh,Za,Zb,Zc,TT,g8,g6,eye_lt_nat,hi',hge,hat]
   intro o ho
   refine hK2 _ _ o _ (by simp only [upd,Nc,↓reduceIte]) ho ?_
   clear hK2 K2 ho
   refine jQ fun K hK=>?_
   refine acallk (rightP_calls f _) ?_
   rintro r s2 ⟨rfl,rfl⟩
   by_cases h1 : Pub f
   ·by_cases h2 : t.length = 48
    ·refine jV (Ai (decide_eq_true h1) (n48 h2)) hK ?_;clear hK K
     refine jF ?_
     refine awp_skip ?_
     simp only [blockQ,thenQ,if_true,if_false]
     refine hK3 _ _ ?_;clear hK3 K3
     refine jD (Ai @g8 (eye_succM i (by omega))) ?_
     refine ⟨⟨i + 1,by omega,by simp only [upd,↓reduceIte],by simp only [upd,g7,Nc,↓reduceIte],by simp only [upd,g6,Nc,↓reduceIte],by simp only [upd,g1,Nc,↓reduceIte],htk ⟨h1,h2⟩,rfl⟩,?_⟩
     simp only [g8,upd,↓reduceIte]
     omega
    ·refine jV (Ai (decide_eq_true h1) (n48T h2)) hK ?_;clear hK K
     refine jE ?_
     refine jA ?_
     refine jI ?_
     exact ⟨_,_,AV.weak.refl _,AS.le.refl _,by rw [hbad fun h=>h2 h.2],rfl⟩
   ·refine jV (decide_eq_false h1) hK ?_;clear hK K
    refine jE ?_
    refine jA ?_
    refine jI ?_
    exact ⟨_,_,AV.weak.refl _,AS.le.refl _,by rw [hbad fun h=>h1 h.1],rfl⟩
  ·have hfull:=take_full hi' hall
   refine jB (Ai @g8 (Ai @g7 (Ai @eye_lt_nat (decide_eq_false hi')))) ?_
   refine wK fun K3 hK3=>?_
   refine jF ?_
   refine awp_exit ?_
   simp only [thenQ,blockQ,if_true]
   refine hK _ _ ?_;clear hK K hK3 K3
   refine jS @g1 fun K hK=>?_
   refine acallk (rightP_calls key _) ?_
   rintro r s2 ⟨rfl,rfl⟩
   by_cases h1 : Pub key
   ·refine jV (Ai @g1 (decide_eq_true h1)) hK ?_;clear hK K
    refine jI ?_
    refine ⟨_,_,AV.weak.refl _,AS.le.refl _,?_,rfl⟩
    congr 2
    refine decide_eq_decide.2 ⟨fun h=>⟨hfull,h1,by simp only; omega⟩,fun h=>by have:=h.2.2; simp only at this; omega⟩
   ·refine jV (Ai @g1 (decide_eq_false h1)) hK ?_;clear hK K
    refine jI ?_
    exact ⟨_,_,AV.weak.refl _,AS.le.refl _,by rw [decide_eq_false fun h=>h1 h.2.1],rfl⟩
end Go.Proofs.YtfjlmkifiihgkaaGreatDoor
namespace Go.Proofs.YtfjlmkifiihgkaaGreatDoor
open Go Go.AM Go.Proofs
variable {Γ : Nat→List AV}
theorem pathed_calls (c : CommitV) (hl : c.path.steps.length≤9223372036854775807) (hls : ∀ x ∈ c.path.steps,x.seals.length≤9223372036854775807) (s : AS) : ACalls Tryz.prog Γ 159 [.agg c.cells] s (fun r s'=>r = .v (.bool (decide c.pathed))∧s' = s):=by
 refine acalls_body Tryz.func159 rfl Tryz.ntmps159 Tryz.results159 (by simp) ?_
 obtain ⟨g,e,sd,ps,hp,⟨pk,pp,pst⟩,cf,mb⟩:=c
 simp only at hl hls
 unfold CommitV.cells
 have hrow:=fun i (h : i < pst.length)=>row_at (c:=StepV.cells) (k:=2) (fun _=>rfl) h
 generalize hX : rowC StepV.cells pst = X at *
 generalize hZ : rowC PropV.cells ps = Z at *
 refine awp_reg_frz 1 (by simp [dsts]) ?_
 intro K hK
 simp only [↓DM,pval,DX,Nz,↓DN,Qa,Qb,Qc,Qd,Qe,Qf,Qg,Qh,reduceCtorEq,↓reduceIte,Na,Nb,Nc,Nk,Nf,Ng,Nh,Za,Zb,Zc,TT]
 intro o ho
 refine hK _ _ o _ (by simp only [upd,Nc,↓reduceIte]) ho ?_
 clear hK K ho
 refine awp_reg_frz 3 (by simp [dsts]) ?_
 intro K hK
 simp only [↓DM,pval,DX,Nz,↓DN,Qa,Qb,Qc,Qd,Qe,Qf,Qg,Qh,reduceCtorEq,↓reduceIte,Na,Nb,Nc,Nk,Nf,Ng,Nh,Za,Zb,Zc,TT]
 intro o ho
 refine hK _ _ o _ (by simp only [upd,Nc,↓reduceIte]) ho ?_
 clear hK K ho
 refine wK fun K hK=>?_
 cases hp with
 | false =>
  refine jA ?_
  refine jE ?_
  have hno : decide (CommitV.pathed ⟨g,e,sd,ps,false,⟨pk,pp,pst⟩,cf,mb⟩) = decide (pk = 0∧pp.length = 0∧pst.length = 0) :=
   decide_eq_decide.2 ⟨fun h=>h.2 rfl,fun h=>⟨fun q=>(by cases q),fun _=>h⟩⟩
  rw [hno] at hK ⊢
  rcases ff3 ((pk : Int) == 0) ((pp.length : Int) == 0) ((pst.length : Int) == 0) with hd | hd | hd | hd
  all_goals
   refine jB @hd ?_
   refine jI ?_
   refine ⟨_,_,AV.weak.refl _,AS.le.refl _,?_,rfl⟩
   simp only [beq_iff_eq,beq_eq_false_iff_ne,ne_eq] at hd
   congr 2
   symm
   first
    | exact decide_eq_true (by omega)
    | exact decide_eq_false (by omega)
 | true =>
  have hyes : decide (CommitV.pathed ⟨g,e,sd,ps,true,⟨pk,pp,pst⟩,cf,mb⟩) = decide (PathV.right ⟨pk,pp,pst⟩) :=
   decide_eq_decide.2 ⟨fun h=>h.1 rfl,fun h=>⟨fun _=>h,fun q=>(by cases q)⟩⟩
  rw [hyes] at hK ⊢
  clear hyes
  refine jA ?_
  refine jF ?_
  refine awp_skip ?_
  refine hK _ _ ?_;clear hK K
  refine wK fun K hK=>?_
  refine jA ?_
  refine awp_block ?_
  refine awp_loop (fun E s1=>∃ i : Nat,i≤pst.length∧E 29 = .v (.int .i64 i)∧E 28 = .v (.int .i64 pst.length)∧E 27 = .sl 2 pst.length X .any∧E 3 = .rop [.v (.int .u64 pk),.sl 1 pp.length (pp.map byteV) .any,.sl 2 pst.length X .any]∧(∀ p ∈ pst.take i,p.right)∧s1 = s)
   (fun E _=>match E 29 with | .v (.int _ i)=>pst.length - i.toNat | _=>0) ?_ ?_
  ·exact ⟨0,Nat.zero_le _,by simp only [upd,↓reduceIte]; rfl,by simp only [upd,Nc,↓reduceIte],by simp only [upd,Nc,↓reduceIte],by simp only [upd,Nc,↓reduceIte],by simp,rfl⟩
  ·rintro E1 s1 ⟨i,hi,g8,g7,g6,g1,hall,rfl⟩ -
   by_cases hi' : i < pst.length
   ·refine jB (Ai @g8 (Ai @g7 (Ai @eye_lt_nat (decide_eq_true hi')))) ?_
    refine wK fun K3 hK3=>?_
    refine jE ?_
    refine awp_skip ?_
    refine hK3 _ _ ?_;clear hK3 K3
    refine wK fun K3 hK3=>?_
    refine awp_block ?_
    have hat:=hrow i hi'
    have hge : (0 : Int)≤(i : Int):=by omega
    obtain ⟨y,hy⟩ : ∃ y,y = pst[i]:=⟨_,rfl⟩
    rw [← hy] at hat
    have hym : y ∈ pst:=by rw [hy]; exact List.getElem_mem hi'
    have htk : y.right→∀ x ∈ pst.take (i + 1),x.right:=fun h=>take_all hi' hall (by rw [← hy]; exact h)
    have hbad : ¬ y.right→decide (PathV.right ⟨pk,pp,pst⟩) = false:=fun h=>decide_eq_false fun hr=>h (hr.1 y hym)
    have hst:=fun s=>step_calls (Γ:=Γ) y (hls y hym) s
    clear hy
    obtain ⟨f,t⟩:=y
    unfold StepV.cells at hat hst
    generalize rowC SealV.cells t = T at *
    refine awp_reg_frz 5 (by simp [dsts]) ?_
    intro K2 hK2
    simp only [↓DM,pval,DX,Nz,↓DN,Qa,Qb,Qc,Qd,Qe,Qf,Qg,Qh,reduceCtorEq,↓reduceIte,Na,Nb,Nc,Nk,Nf,Ng,Nh,Za,Zb,Zc,TT,g8,g6,eye_lt_nat,hi',hge,hat]
    intro o ho
    refine hK2 _ _ o _ (by simp only [upd,Nc,↓reduceIte]) ho ?_
    clear hK2 K2 ho
    refine jQ fun K hK=>?_
    refine acallk (hst _) ?_
    rintro r s2 ⟨rfl,rfl⟩
    by_cases h1 : StepV.right ⟨f,t⟩
    ·refine jV (decide_eq_true h1) hK ?_;clear hK K
     refine jF ?_
     refine awp_skip ?_
     simp only [blockQ,thenQ,if_true,if_false]
     refine hK3 _ _ ?_;clear hK3 K3
     refine jD (Ai @g8 (eye_succM i (by omega))) ?_
     refine ⟨⟨i + 1,by omega,by simp only [upd,↓reduceIte],by simp only [upd,g7,Nc,↓reduceIte],by simp only [upd,g6,Nc,↓reduceIte],by simp only [upd,g1,Nc,↓reduceIte],htk h1,rfl⟩,?_⟩
     simp only [g8,upd,↓reduceIte]
     omega
    ·refine jV (decide_eq_false h1) hK ?_;clear hK K
     refine jE ?_
     refine jA ?_
     refine jI ?_
     exact ⟨_,_,AV.weak.refl _,AS.le.refl _,by rw [hbad h1],rfl⟩
   ·have hfull:=take_full hi' hall
    refine jB (Ai @g8 (Ai @g7 (Ai @eye_lt_nat (decide_eq_false hi')))) ?_
    refine wK fun K3 hK3=>?_
    refine jF ?_
    refine awp_exit ?_
    simp only [thenQ,blockQ,if_true]
    refine hK _ _ ?_;clear hK K hK3 K3
    refine jS @g1 fun K hK=>?_
    refine acallk (rightP_calls pk _) ?_
    rintro r s2 ⟨rfl,rfl⟩
    by_cases h1 : Pub pk
    ·rcases tt2 ((pp.length : Int) == 0) ((pp.length : Int) == 32) with hd | hd | hd
     all_goals
      refine jV (Ai @g1 (Ai (decide_eq_true h1) @hd)) hK ?_;clear hK K
      refine jI ?_
      refine ⟨_,_,AV.weak.refl _,AS.le.refl _,?_,rfl⟩
      simp only [beq_iff_eq,beq_eq_false_iff_ne,ne_eq] at hd
     ·congr 2
      exact decide_eq_decide.2 ⟨fun h=>⟨hfull,h1,Or.inl (by simp only; omega),by simp only; omega⟩,fun h=>by have:=h.2.2.2; simp only at this; omega⟩
     ·congr 2
      exact decide_eq_decide.2 ⟨fun h=>⟨hfull,h1,Or.inr (by simp only; omega),by simp only; omega⟩,fun h=>by have:=h.2.2.2; simp only at this; omega⟩
     ·congr 2
      symm
      exact decide_eq_false fun h=>by have:=h.2.2.1; simp only at this; omega
    ·refine jV (Ai @g1 (decide_eq_false h1)) hK ?_;clear hK K
     refine jI ?_
     exact ⟨_,_,AV.weak.refl _,AS.le.refl _,by rw [decide_eq_false fun h=>h1 h.2.1],rfl⟩
def CommitV.fits (c : CommitV) : Prop:=c.props.length≤9223372036854775807∧c.path.steps.length≤9223372036854775807∧∀ x ∈ c.path.steps,x.seals.length≤9223372036854775807
theorem mright_calls (c : CommitV) (hf : CommitV.fits c) (s : AS) : ACalls Tryz.prog Γ 87 [.agg c.cells] s (fun r s'=>r = .v (.bool (decide c.right))∧s' = s):=by
 refine acalls_body Tryz.func87 rfl Tryz.ntmps87 Tryz.results87 (by simp) ?_
 have hpa:=fun s=>pathed_calls (Γ:=Γ) c hf.2.1 hf.2.2 s
 have hl:=hf.1
 clear hf
 obtain ⟨b,hb⟩ : ∃ b,b = decide c.pathed:=⟨_,rfl⟩
 rw [← hb] at hpa
 have hbp : c.pathed↔b = true:=by rw [hb]; exact (decide_eq_true_iff).symm
 have hR : (∀ x ∈ c.props,x.right)→decide c.right = decide ((1≤c.group.length∧c.group.length≤16)∧(0≤c.epoch∧c.epoch≤1048576)∧(0≤c.sender∧c.sender < 32)∧c.props.length≤16∧b = true∧c.confirm.length = 32∧c.member.length = 32):=by
  intro h
  refine decide_eq_decide.2 ⟨fun q=>?_,fun q=>?_⟩
  ·obtain ⟨_,q1,q2,q3,q4,q5,q6⟩:=q
   exact ⟨q1,q2,q3,q4,hbp.1 q5,q6⟩
  ·obtain ⟨q1,q2,q3,q4,q5,q6⟩:=q
   exact ⟨h,q1,q2,q3,q4,hbp.2 q5,q6⟩
 have hbad0 : ∀ y,y ∈ c.props→¬ y.right→decide c.right = false:=fun y hy h=>decide_eq_false fun q=>h (q.1 y hy)
 generalize decide c.right = R at *
 clear hb hbp
 obtain ⟨g,e,sd,ps,hp,⟨pk,pp,pst⟩,cf,mb⟩:=c
 simp only at hl hR hbad0
 unfold CommitV.cells at hpa ⊢
 have hrow:=fun i (h : i < ps.length)=>row_at (c:=PropV.cells) (k:=5) (fun _=>rfl) h
 generalize hX : rowC StepV.cells pst = X at *
 generalize hZ : rowC PropV.cells ps = Z at *
 refine awp_reg_frz 1 (by simp [dsts]) ?_
 intro K hK
 simp only [↓DM,pval,DX,Nz,↓DN,Qa,Qb,Qc,Qd,Qe,Qf,Qg,Qh,reduceCtorEq,↓reduceIte,Na,Nb,Nc,Nk,Nf,Ng,Nh,Za,Zb,Zc,TT]
 intro o ho
 refine hK _ _ o _ (by simp only [upd,Nc,↓reduceIte]) ho ?_
 clear hK K ho
 refine wK fun K hK=>?_
 refine jA ?_
 refine awp_block ?_
 refine awp_loop (fun E s1=>∃ i : Nat,i≤ps.length∧E 8 = .v (.int .i64 i)∧E 7 = .v (.int .i64 ps.length)∧E 6 = .sl 5 ps.length Z .any∧E 1 = .rop [.sl 1 g.length (g.map byteV) .any,.v (.int .i64 e),.v (.int .i64 sd),.sl 5 ps.length Z .any,.v (.bool hp),.v (.int .u64 pk),.sl 1 pp.length (pp.map byteV) .any,.sl 2 pst.length X .any,.sl 1 cf.length (cf.map byteV) .any,.sl 1 mb.length (mb.map byteV) .any]∧(∀ p ∈ ps.take i,p.right)∧s1 = s)
  (fun E _=>match E 8 with | .v (.int _ i)=>ps.length - i.toNat | _=>0) ?_ ?_
 ·exact ⟨0,Nat.zero_le _,by simp only [upd,↓reduceIte]; rfl,by simp only [upd,Nc,↓reduceIte],by simp only [upd,Nc,↓reduceIte],by simp only [upd,Nc,↓reduceIte],by simp,rfl⟩
 ·rintro E1 s1 ⟨i,hi,g8,g7,g6,g1,hall,rfl⟩ -
  by_cases hi' : i < ps.length
  ·refine jB (Ai @g8 (Ai @g7 (Ai @eye_lt_nat (decide_eq_true hi')))) ?_
   refine wK fun K3 hK3=>?_
   refine jE ?_
   refine awp_skip ?_
   refine hK3 _ _ ?_;clear hK3 K3
   refine wK fun K3 hK3=>?_
   refine awp_block ?_
   have hat:=hrow i hi'
   have hge : (0 : Int)≤(i : Int):=by omega
   obtain ⟨y,hy⟩ : ∃ y,y = ps[i]:=⟨_,rfl⟩
   rw [← hy] at hat
   have hym : y ∈ ps:=by rw [hy]; exact List.getElem_mem hi'
   have htk : y.right→∀ x ∈ ps.take (i + 1),x.right:=fun h=>take_all hi' hall (by rw [← hy]; exact h)
   have hbad:=hbad0 y hym
   have hst:=fun s=>proper_calls (Γ:=Γ) y s
   clear hy
   obtain ⟨pk1,pk2,pk3,pk4,pk5⟩:=y
   unfold PropV.cells at hat hst
   refine awp_reg_frz 4 (by simp [dsts]) ?_
   intro K2 hK2
   simp only [↓DM,pval,DX,Nz,↓DN,Qa,Qb,Qc,Qd,Qe,Qf,Qg,Qh,reduceCtorEq,↓reduceIte,Na,Nb,Nc,Nk,Nf,Ng,Nh,Za,Zb,Zc,TT,g8,g6,eye_lt_nat,hi',hge,hat]
   intro o ho
   refine hK2 _ _ o _ (by simp only [upd,Nc,↓reduceIte]) ho ?_
   clear hK2 K2 ho
   refine jQ fun K hK=>?_
   refine acallk (hst _) ?_
   rintro r s2 ⟨rfl,rfl⟩
   by_cases h1 : PropV.right ⟨pk1,pk2,pk3,pk4,pk5⟩
   ·refine jV (decide_eq_true h1) hK ?_;clear hK K
    refine jF ?_
    refine awp_skip ?_
    simp only [blockQ,thenQ,if_true,if_false]
    refine hK3 _ _ ?_;clear hK3 K3
    refine jD (Ai @g8 (eye_succM i (by omega))) ?_
    refine ⟨⟨i + 1,by omega,by simp only [upd,↓reduceIte],by simp only [upd,g7,Nc,↓reduceIte],by simp only [upd,g6,Nc,↓reduceIte],by simp only [upd,g1,Nc,↓reduceIte],htk h1,rfl⟩,?_⟩
    simp only [g8,upd,↓reduceIte]
    omega
   ·refine jV (decide_eq_false h1) hK ?_;clear hK K
    refine jE ?_
    refine jA ?_
    refine jI ?_
    exact ⟨_,_,AV.weak.refl _,AS.le.refl _,by rw [hbad h1],rfl⟩
  ·have hR:=hR (take_full hi' hall)
   clear hbad0
   refine jB (Ai @g8 (Ai @g7 (Ai @eye_lt_nat (decide_eq_false hi')))) ?_
   refine wK fun K3 hK3=>?_
   refine jF ?_
   refine awp_exit ?_
   simp only [thenQ,blockQ,if_true]
   refine hK _ _ ?_;clear hK K hK3 K3
   refine jS @g1 fun K hK=>?_
   refine acallk (named_calls g _) ?_
   rintro r s2 ⟨rfl,rfl⟩
   by_cases h1 : 1≤g.length∧g.length≤16
   ·rcases ff2 (decide (0≤e)) (decide (e≤1048576)) with hd | hd | hd
    case inr.inr =>
     simp only [↓DM,pval,DX,Nz,↓DN,Qa,Qb,Qc,Qd,Qe,Qf,Qg,Qh,reduceCtorEq,↓reduceIte,Na,Nb,Nc,Nk,Nf,Ng,Nh,Za,Zb,Zc,TT,g1,decide_eq_true h1,hd]
     refine acallk (leaf_calls sd _) ?_
     rintro r s3 ⟨rfl,rfl⟩
     simp only [decide_eq_true_eq] at hd
     by_cases h2 : 0≤sd∧sd < 32
     ·by_cases h3 : ps.length≤16
      ·simp only [↓DM,pval,DX,Nz,↓DN,Qa,Qb,Qc,Qd,Qe,Qf,Qg,Qh,reduceCtorEq,↓reduceIte,Na,Nb,Nc,Nk,Nf,Ng,Nh,Za,Zb,Zc,TT,g1,decide_eq_true h2,decide_eq_true (show (ps.length : Int)≤16 by omega)]
       refine acallk (hpa _) ?_
       rintro r s4 ⟨rfl,rfl⟩
       cases b with
       | true =>
        rcases ff2 ((cf.length : Int) == 32) ((mb.length : Int) == 32) with hd2 | hd2 | hd2
        all_goals
         refine jV (Ai @g1 @hd2) hK ?_;clear hK K
         refine jI ?_
         refine ⟨_,_,AV.weak.refl _,AS.le.refl _,?_,rfl⟩
         simp only [beq_iff_eq,beq_eq_false_iff_ne,ne_eq] at hd2
         rw [hR]
         congr 2
         symm
         first
          | exact decide_eq_true ⟨h1,hd,h2,h3,rfl,by omega,by omega⟩
          | exact decide_eq_false fun h=>by omega
       | false =>
        refine jV @g1 hK ?_;clear hK K
        refine jI ?_
        exact ⟨_,_,AV.weak.refl _,AS.le.refl _,by rw [hR]; simp,rfl⟩
      ·refine jV (Ai @g1 (Ai (decide_eq_true h2) (decide_eq_false (show ¬ (ps.length : Int)≤16 by omega)))) hK ?_;clear hK K
       refine jI ?_
       exact ⟨_,_,AV.weak.refl _,AS.le.refl _,by rw [hR,decide_eq_false fun h=>h3 h.2.2.2.1],rfl⟩
     ·refine jV (Ai @g1 (decide_eq_false h2)) hK ?_;clear hK K
      refine jI ?_
      exact ⟨_,_,AV.weak.refl _,AS.le.refl _,by rw [hR,decide_eq_false fun h=>h2 h.2.2.1],rfl⟩
    all_goals
     refine jV (Ai @g1 (Ai (decide_eq_true h1) @hd)) hK ?_;clear hK K
     refine jI ?_
     refine ⟨_,_,AV.weak.refl _,AS.le.refl _,?_,rfl⟩
     simp only [decide_eq_true_eq,decide_eq_false_iff_not] at hd
     rw [hR,decide_eq_false fun h=>by have:=h.2.1; omega]
   ·refine jV (Ai @g1 (decide_eq_false h1)) hK ?_;clear hK K
    refine jI ?_
    exact ⟨_,_,AV.weak.refl _,AS.le.refl _,by rw [hR,decide_eq_false fun h=>h1 h.1],rfl⟩
end Go.Proofs.YtfjlmkifiihgkaaGreatDoor
namespace Go.AM
open Go
variable {Γ : Nat→List AV} {s s' : AS}
theorem new_right {name : List UInt8} {key : Nat} (h : (leafN name key).right) : rightT [leafN name key]:=by
  have hl : lvs [leafN name key] = 1:=by unfold lvs; simp [Fit]
  refine ⟨by rw [hl]; decide,fun i hi=>?_,.inl hl⟩
  have hi0 : i = 0:=by simp at hi; omega
  subst hi0
  refine ⟨⟨h,.inr ⟨fun _=>rfl,fun _=>rfl⟩,fun u hu=>by cases hu⟩,fun _ _ j hj hj'=>?_⟩
  have : hlf [leafN name key] = 1:=by unfold hlf; simp
  omega
end Go.AM
