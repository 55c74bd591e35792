/- Contracts of the program's functions, each walked once; the conditions stand in each theorem. -/
import Derived.Test.YtfjlmkifiihgkaaGreatDoorAMp6
import Derived.Test.YtfjlmkifiihgkaaGreatDoorW1
import Derived.Test.YtfjlmkifiihgkaaGreatDoorW8
import Derived.Test.YtfjlmkifiihgkaaGreatDoorW6
import Derived.Test.YtfjlmkifiihgkaaGreatDoorW5
import Derived.Test.YtfjlmkifiihgkaaGreatDoorW3
import Derived.Shelf.Slices.SearchI
import Derived.Shelf.Slices.Empties
import Derived.Test.YtfjlmkifiihgkaaGreatDoorW2
import Derived.Test.YtfjlmkifiihgkaaGreatDoorAMp7
import Derived.Test.YtfjlmkifiihgkaaGreatDoorW4
import Derived.Test.YtfjlmkifiihgkaaGreatDoorAMp5
import Derived.Test.YtfjlmkifiihgkaaGreatDoorAMp4
set_option linter.unusedSimpArgs false
set_option linter.unusedVariables false
open Nat renaming reduceLT → Na, reduceLeDiff → Nb, reduceEqDiff → Nc, reduceAdd → Nk, reduceMul → Nf, reducePow → Ng, reduceSub → Nh, reduceBEq → Nz
open Int renaming reduceLT → Za, reduceLE → Zb, reduceToNat → Zc
open And renaming intro → Ai
open Go.AM renaming ashift → Qa, aconv → Qb, aindexAddr → Qc, aindex → Qd, aslice → Qe, abuiltin → Qf, awp_reg_seq → wS, awp_reg_end → wE, awp_seq_k → wK, awp_cond_k → wC
open Go.AM.AV renaming cells → Qg, one → Qh
set_option maxRecDepth 100000
set_option maxHeartbeats 8000000
set_option autoImplicit false
namespace Go.Proofs.YtfjlmkifiihgkaaGreatDoor
open Go Go.AM Go.Proofs
variable {Γ : Nat→List AV}
theorem fit_noerr {st : EyeSt} (h : Fit (eyeNum 1 st).1) : (eyeNum 1 st).2.2 = 0:=by
 obtain ⟨l,e⟩:=st
 by_cases he : e = 0
 ·subst he
  by_cases hl : l.length < 1
  ·rw [eyeNum_short hl] at h
   exact absurd (show Fit 0 from h) (by decide)
  ·rw [eyeNum_ok (by omega)]
 ·rw [eyeNum_err he] at h
  exact absurd (show Fit 0 from h) (by decide)
theorem failE_ne {st : EyeSt} (h : st.2≠0) : failE 40 st = st:=by simp only [failE,if_neg h]
theorem failE_0 {st : EyeSt} (h : st.2 = 0) : failE 40 st = (st.1,40):=by simp only [failE,if_pos h]
theorem refTreeRead_calls (s : AS) (p : Nat) (st : EyeSt) (hl : st.1.length≤2 ^ 44) (h : s.objs p = some (reyeC st)) :
  ACalls Tryz.prog Γ 107 [.ptr p 0] s (fun r s'=>r = treeN (treeRead st).1∧s' = s.set p (reyeC (treeRead st).2)):=by
 refine acalls_body Tryz.func107 rfl Tryz.ntmps107 Tryz.results107 (by simp) ?_
 obtain ⟨q1,e1⟩ : ∃ q,q = eyeNum 1 st:=⟨_,rfl⟩
 have l1 : q1.2.1.length≤2 ^ 44:=by rw [e1]; exact Nat.le_trans (eyeNum_len _ _) hl
 have k1 : q1.1 < 256:=by rw [e1]; exact eyeN1_lt _
 have hu8:=reyeNumber_set (Γ:=Γ) s p st 1 (by omega) (by omega) h
 rw [← e1] at hu8
 have hfi:=fun s=>refFits18_calls (Γ:=Γ) (q1.1 : Int) s
 have hle0 : ∀ c,(s.drop p).le (s.set p c):=fun c=>AS.le_set (AS.drop_le s p) (AS.drop_self s p) c
 by_cases hf : Fit q1.1
 ·have htr : treeRead st = treeEnd (eyeNodes (2 * q1.1 - 1) q1.2):=by simp only [treeRead,← e1,if_pos hf]
  rw [htr]
  have hz : q1.2.2 = 0:=by rw [e1] at hf ⊢; exact fit_noerr hf
  rw [decide_eq_true (fitI_nat.2 hf)] at hfi
  have hfl:=hf.le
  have em:=imul2_nat q1.1 (by omega)
  have es : isub .i64 ((2 * q1.1 : Nat) : Int) 1 = ((2 * q1.1 - 1 : Nat) : Int):=by rw [isub_i64 (by omega)]; omega
  generalize hn : 2 * q1.1 - 1 = n at *
  refine jA ?_
  refine jQ fun K hK=>?_
  refine acallk hu8 ?_
  rintro r s1 ⟨rfl,rfl⟩
  refine jV (i64_conv (show q1.1 < 2 ^ 62 by omega)) hK ?_;clear hK K
  have je : (s.set p (reyeC q1.2)).objs p = some [.v (.string ⟨q1.2.1.toArray⟩),.v (.int .i64 q1.2.2)]:=AS.set_objs_same _ _ _
  have hob0 : (s.set p (reyeC q1.2)).objs p = some (reyeC q1.2):=AS.set_objs_same _ _ _
  have hle:=hle0 (reyeC q1.2)
  generalize s.set p (reyeC q1.2) = s2 at *
  rw [hz] at je
  refine wK fun K hK=>?_
  refine jS (Ai @je (show ((0 : Int) == 0) = true from rfl)) fun K hK=>?_
  refine acallk (hfi _) ?_
  rintro r s3 ⟨rfl,rfl⟩
  refine jR hK ?_;clear hK K
  refine jF ?_
  refine awp_skip ?_
  refine hK _ _ ?_;clear hK K
  refine wK fun K hK=>?_
  refine jB (Ai @je (i64_ne_false 0 rfl)) ?_
  refine jF ?_
  refine awp_skip ?_
  refine hK _ _ ?_;clear hK K
  refine jA ?_
  refine wK fun K hK=>?_
  refine jA ?_
  refine awp_block ?_
  clear je
  refine awp_loop (fun E s2=>∃ (i : Nat) (x : AV),i≤n∧E 5 = .v (.int .i64 i)∧E 3 = .v (.int .i64 q1.1)∧E 4 = x∧E 0 = .ptr p 0∧s2.objs p = some (reyeC (eyeNodes i q1.2).2)∧(s.drop p).le s2∧RBuf 5 (s.drop p) s2 x i (rowC NodeV.cells (eyeNodes i q1.2).1))
   (fun E _=>match E 5 with | .v (.int _ i)=>n - i.toNat | _=>0) ?_ ?_
  ·exact ⟨0,_,Nat.zero_le _,by simp only [upd,Nc,↓reduceIte]; rfl,by simp only [upd,Nc,↓reduceIte],by simp only [upd,Nc,↓reduceIte]; rfl,by simp only [upd,initE,List.getD_cons_zero,List.getD_cons_succ,Nc,↓reduceIte],hob0,hle,RBuf.nil _ _ _⟩
  ·clear hob0 hle
   rintro E1 s4 ⟨i,x,hi,g5,g3,g4,g0,hob,hle,hx⟩ -
   have hSl : (eyeNodes i q1.2).2.1.length≤2 ^ 44:=Nat.le_trans (eyeNodes_left _ _) l1
   have hLl:=eyeNodes_len i q1.2
   refine wK fun K2 hK2=>?_
   by_cases hi' : i < n
   ·refine jB (Ai @g5 (Ai @g3 (Ai @em (Ai @es (Ai @eye_lt_nat (decide_eq_true hi')))))) ?_
    refine jE ?_
    refine awp_skip ?_
    refine hK2 _ _ ?_;clear hK2 K2
    refine wK fun K3 hK3=>?_
    refine awp_block ?_
    have hsu : eyeNodes (i + 1) q1.2 = ((eyeNodes i q1.2).1 ++ [(nodeRead (eyeNodes i q1.2).2).1],(nodeRead (eyeNodes i q1.2).2).2):=rfl
    have hend : ∀ (E : Env) (s5 : AS) (x2 : AV),E 5 = .v (.int .i64 i)→E 3 = .v (.int .i64 q1.1)→E 4 = x2→E 0 = .ptr p 0→s5.objs p = some (reyeC (eyeNodes (i + 1) q1.2).2)→(s.drop p).le s5→RBuf 5 (s.drop p) s5 x2 (i + 1) (rowC NodeV.cells (eyeNodes (i + 1) q1.2).1)→K3 E s5:=by
     intro E s5 x2 f5 f3 f4 f0 fo fle fx
     refine hK3 _ _ ?_;clear hK3 K3
     refine jD (Ai @f5 (eye_succM i (by omega))) ?_
     refine ⟨⟨i + 1,x2,by omega,by simp only [upd,Nc,↓reduceIte],by simp only [upd,f3,Nc,↓reduceIte],by simp only [upd,f4,Nc,↓reduceIte],by simp only [upd,f0,Nc,↓reduceIte],fo,fle,fx⟩,?_⟩
     simp only [g5,upd,↓reduceIte]
     omega
    clear hK3
    rw [hsu] at hend
    simp only [row_snoc] at hend
    generalize eyeNodes i q1.2 = Q at *
    have hrd:=refNodeRead_calls (Γ:=Γ) s4 p Q.2 hSl hob
    generalize nodeRead Q.2 = R at *
    obtain ⟨⟨nk,nm,ny,npa,nu⟩,S⟩:=R
    simp only at hend hrd
    generalize rowC NodeV.cells Q.1 = L at *
    unfold NodeV.cells at hend hrd
    unfold bytesV intsV at hend hrd
    have hle2 : ∀ c,(s.drop p).le (s4.set p c):=fun c=>AS.le_set hle (AS.drop_self s p) c
    rcases hx with ⟨rfl,hi0,hL0⟩ | ⟨t',e,rfl,ht',ht0⟩
    ·refine jU (Ai @g4 @g0) fun K hK=>?_
     refine acallk hrd ?_
     rintro r s5 ⟨rfl,rfl⟩
     simp only [↓DM,pval,DX,Nz,↓DN,Qa,Qb,Qc,Qd,Qe,Qf,Qg,Qh,reduceCtorEq,↓reduceIte,Na,Nb,Nc,Nk,Nf,Ng,Nh,Za,Zb,Zc,TT,g4,g0,zrow_quin,nilS]
     intro t' ht'
     refine hK _ _ ?_
     simp only [blockQ,thenQ,if_true,if_false]
     subst hi0
     rw [hL0] at hend
     have hn0 : (s.drop p).own t' = none:=own_none_le (hle2 (reyeC S)) ht'
     exact hend _ _ (.sl 5 1 [.v (.int .i64 nk),.sl 1 nm.length (nm.map byteV) .any,.v (.int .u64 ny),.sl 1 npa.length (npa.map byteV) .any,.sl 1 nu.length (nu.map intC) .any] (.own t' 0)) (by simp only [upd,g5,Nc,↓reduceIte]) (by simp only [upd,g3,Nc,↓reduceIte]) (by simp only [upd,Nc,↓reduceIte]) (by simp only [upd,g0,Nc,↓reduceIte]) (AS.set_objs_same _ _ _) (AS.le_gain (hle2 _) hn0 0) (.inr ⟨t',0,rfl,by simp [AS.gain],hn0⟩)
    ·refine jU (Ai @g4 @g0) fun K hK=>?_
     refine acallk hrd ?_
     rintro r s5 ⟨rfl,rfl⟩
     simp only [↓DM,pval,DX,Nz,↓DN,Qa,Qb,Qc,Qd,Qe,Qf,Qg,Qh,reduceCtorEq,↓reduceIte,Na,Nb,Nc,Nk,Nf,Ng,Nh,Za,Zb,Zc,TT,g4,g0,zrow_quin,ht']
     refine ⟨by omega,by omega,hK _ _ ?_⟩
     simp only [blockQ,thenQ,if_true,if_false]
     exact hend _ _ (.sl 5 (i + 1) (L ++ [.v (.int .i64 nk),.sl 1 nm.length (nm.map byteV) .any,.v (.int .u64 ny),.sl 1 npa.length (npa.map byteV) .any,.sl 1 nu.length (nu.map intC) .any]) (.own t' (e + 1))) (by simp only [upd,g5,Nc,↓reduceIte]) (by simp only [upd,g3,Nc,↓reduceIte]) (by simp only [upd,Nc,↓reduceIte]) (by simp only [upd,g0,Nc,↓reduceIte]) (AS.set_objs_same _ _ _) (AS.le_gain (hle2 _) ht0 (e + 1)) (.inr ⟨t',e + 1,rfl,by simp [AS.gain],ht0⟩)
   ·obtain rfl : i = n:=by omega
    have hW:=eyeNodes_W i (by omega) q1.2
    refine jB (Ai @g5 (Ai @g3 (Ai @em (Ai @es (Ai @eye_lt_nat (decide_eq_false hi')))))) ?_
    refine jF ?_
    refine awp_exit ?_
    simp only [thenQ,blockQ,if_true]
    refine hK _ _ ?_;clear hK hK2 K2 K
    generalize eyeNodes i q1.2 = Q at *
    have hLne : Q.1≠[]:=by intro e; rw [e] at hLl; simp at hLl; omega
    have hxw:=hx.weak
    have hxn:=hxw
    rw [← hLl] at hxn
    have hrg:=fun s=>ACalls.weaks (.cons hxn .nil) (refRight20_calls (Γ:=Γ) Q.1 hW s)
    have je : s4.objs p = some [.v (.string ⟨Q.2.1.toArray⟩),.v (.int .i64 Q.2.2)]:=hob
    by_cases he : Q.2.2 = 0
    ·rw [he] at je
     by_cases h1 : rightT Q.1
     ·have hte : treeEnd Q = (Q.1,Q.2):=by simp only [treeEnd,if_pos h1,if_pos he]
      rw [hte]
      rw [decide_eq_true h1] at hrg
      refine wK fun K hK=>?_
      refine jS (Ai @g0 (Ai @g4 (Ai @je (show ((0 : Int) == 0) = true from rfl)))) fun K hK=>?_
      refine acallk (hrg _) ?_
      rintro r s5 ⟨rfl,rfl⟩
      refine jR hK ?_;clear hK K
      refine jF ?_
      refine awp_skip ?_
      refine hK _ _ ?_;clear hK K
      refine wK fun K hK=>?_
      refine jB (Ai @g0 (Ai @je (i64_ne_false 0 rfl))) ?_
      refine jF ?_
      refine awp_skip ?_
      refine hK _ _ ?_;clear hK K
      refine jB @g4 ?_
      refine jI ?_
      exact ⟨_,_,treeN_weak hxn hLne,AS.set_le_of hle hob,rfl,rfl⟩
     ·have hte : treeEnd Q = ([],(Q.2.1,40)):=by simp only [treeEnd,if_neg h1,failE_0 he]; rfl
      rw [hte]
      rw [decide_eq_false h1] at hrg
      refine wK fun K hK=>?_
      refine jS (Ai @g0 (Ai @g4 (Ai @je (show ((0 : Int) == 0) = true from rfl)))) fun K hK=>?_
      refine acallk (hrg _) ?_
      rintro r s5 ⟨rfl,rfl⟩
      refine jR hK ?_;clear hK K
      refine jE ?_
      refine jU (Ai @g0 @je) fun K8 hK8=>?_
      refine hK8 _ _ ?_
      simp only [blockQ,thenQ,if_true,if_false]
      clear hK8 K8
      refine hK _ _ ?_;clear hK K
      have je2 : (s5.set p [.v (.string ⟨Q.2.1.toArray⟩),.v (.int .i64 40)]).objs p = some [.v (.string ⟨Q.2.1.toArray⟩),.v (.int .i64 40)]:=AS.set_objs_same _ _ _
      have hle3 : (s.drop p).le (s5.set p [.v (.string ⟨Q.2.1.toArray⟩),.v (.int .i64 40)]):=AS.le_set hle (AS.drop_self s p) _
      generalize s5.set p [.v (.string ⟨Q.2.1.toArray⟩),.v (.int .i64 40)] = s6 at *
      refine wK fun K hK=>?_
      refine jB (Ai @g0 (Ai @je2 (i64_ne_true 40 (by decide)))) ?_
      refine jE ?_
      refine jA ?_
      refine jI ?_
      exact ⟨_,_,AV.weak.refl _,AS.set_le_of hle3 je2,rfl,rfl⟩
    ·have hte : treeEnd Q = ([],Q.2):=by
      by_cases h1 : rightT Q.1
      ·simp only [treeEnd,if_pos h1,if_neg he]
      ·simp only [treeEnd,if_neg h1,failE_ne he,if_neg he]
     rw [hte]
     refine wK fun K hK=>?_
     refine jB (Ai @g0 (Ai @g4 (Ai @je (notI he)))) ?_
     refine jF ?_
     refine awp_skip ?_
     refine hK _ _ ?_;clear hK K
     refine wK fun K hK=>?_
     refine jB (Ai @g0 (Ai @je (i64_ne_true _ he))) ?_
     refine jE ?_
     refine jA ?_
     refine jI ?_
     exact ⟨_,_,AV.weak.refl _,AS.set_le_of hle hob,rfl,rfl⟩
 ·have htr : treeRead st = ([],failE 40 q1.2):=by simp only [treeRead,← e1,if_neg hf]
  rw [htr]
  rw [decide_eq_false (fun q=>hf (fitI_nat.1 q))] at hfi
  refine jA ?_
  refine jQ fun K hK=>?_
  refine acallk hu8 ?_
  rintro r s1 ⟨rfl,rfl⟩
  refine jV (i64_conv (show q1.1 < 2 ^ 62 by omega)) hK ?_;clear hK K
  have je : (s.set p (reyeC q1.2)).objs p = some [.v (.string ⟨q1.2.1.toArray⟩),.v (.int .i64 q1.2.2)]:=AS.set_objs_same _ _ _
  have hle:=hle0 (reyeC q1.2)
  have hob0 : (s.set p (reyeC q1.2)).objs p = some (reyeC q1.2):=AS.set_objs_same _ _ _
  generalize s.set p (reyeC q1.2) = s2 at *
  by_cases he : q1.2.2 = 0
  ·rw [he] at je
   rw [failE_0 he]
   refine wK fun K hK=>?_
   refine jS (Ai @je (show ((0 : Int) == 0) = true from rfl)) fun K hK=>?_
   refine acallk (hfi _) ?_
   rintro r s3 ⟨rfl,rfl⟩
   refine jR hK ?_;clear hK K
   refine jE ?_
   refine jU @je fun K8 hK8=>?_
   refine hK8 _ _ ?_
   simp only [blockQ,thenQ,if_true,if_false]
   clear hK8 K8
   refine hK _ _ ?_;clear hK K
   have je2 : (s3.set p [.v (.string ⟨q1.2.1.toArray⟩),.v (.int .i64 40)]).objs p = some [.v (.string ⟨q1.2.1.toArray⟩),.v (.int .i64 40)]:=AS.set_objs_same _ _ _
   have hle3 : (s.drop p).le (s3.set p [.v (.string ⟨q1.2.1.toArray⟩),.v (.int .i64 40)]):=AS.le_set hle (AS.drop_self s p) _
   generalize s3.set p [.v (.string ⟨q1.2.1.toArray⟩),.v (.int .i64 40)] = s6 at *
   refine wK fun K hK=>?_
   refine jB (Ai @je2 (i64_ne_true 40 (by decide))) ?_
   refine jE ?_
   refine jA ?_
   refine jI ?_
   exact ⟨_,_,AV.weak.refl _,AS.set_le_of hle3 je2,rfl,rfl⟩
  ·rw [failE_ne he]
   refine wK fun K hK=>?_
   refine jB (Ai @je (notI he)) ?_
   refine jF ?_
   refine awp_skip ?_
   refine hK _ _ ?_;clear hK K
   refine wK fun K hK=>?_
   refine jB (Ai @je (i64_ne_true _ he)) ?_
   refine jE ?_
   refine jA ?_
   refine jI ?_
   exact ⟨_,_,AV.weak.refl _,AS.set_le_of hle hob0,rfl,rfl⟩
end Go.Proofs.YtfjlmkifiihgkaaGreatDoor
namespace Go.Proofs.YtfjlmkifiihgkaaGreatDoor
open Go Go.AM Go.Proofs
variable {Γ : Nat→List AV}
theorem leafOf20_calls (name : List UInt8) (key : Nat) (hn : name.length≤2 ^ 45) (s : AS) : ACalls Tryz.prog Γ 56 [bytesV name .any,.v (.int .u64 key)] s (fun r s'=>r = .agg (leafN name key).cells∧s' = s):=by
 refine acalls_body Tryz.func56 rfl Tryz.ntmps56 Tryz.results56 (by simp) ?_
 have hc:=fun s=>bytesClone_calls (Γ:=Γ) name s hn
 unfold bytesV at *
 refine wS fun K hK=>?_
 simp only [↓DN,Qa,Qb,Qc,Qd,Qe,Qf,Qg,Qh,reduceCtorEq,↓reduceIte,Na,Nb,Nc,Nk,Nf,Ng,Nh,Za,Zb,Zc,TT]
 intro o ho
 refine hK _ _ ?_;clear hK K
 refine wS fun K hK=>?_
 simp only [↓DN,Qa,Qb,Qc,Qd,Qe,Qf,Qg,Qh,reduceCtorEq,↓reduceIte,Na,Nb,Nc,Nk,Nf,Ng,Nh,Za,Zb,Zc,TT]
 refine acallk (hc _) ?_
 rintro r s1 ⟨rfl,rfl⟩
 simp only [↓DM,pval,DX,Nz,↓DN,Qa,Qb,Qc,Qd,Qe,Qf,Qg,Qh,reduceCtorEq,↓reduceIte,Na,Nb,Nc,Nk,Nf,Ng,Nh,Za,Zb,Zc,TT]
 refine hK _ _ ?_;clear hK K
 refine awp_ret ?_
 refine aends_cell (o:=o) (off:=0) (by simp only [upd,Nc,↓reduceIte]) (AS.set_objs_same _ _ _) (by rw [T.c69]; decide) (by simp only [↓DN,Qa,Qb,Qc,Qd,Qe,Qf,Qg,Qh,reduceCtorEq,↓reduceIte,Na,Nb,Nc,Nk,Nf,Ng,Nh,Za,Zb,Zc,TT]; rfl) ?_
 exact ⟨_,s,AV.weak_agg (.cons (AV.weak.refl _) (.cons (AV.weak.refl _) (.cons (AV.weak.refl _) (.cons AV.weak_nil (.cons AV.weak_nil .nil))))),AS.le_set (AS.le.refl s) ho _,rfl,rfl⟩
theorem new20_calls (name : List UInt8) (key : Nat) (hn : name.length≤2 ^ 45) (s : AS) : ACalls Tryz.prog Γ 11 [bytesV name .any,.v (.int .u64 key)] s
  (fun r s'=>r = (if (leafN name key).right then .tup [treeV [leafN name key],.v (.int .i64 0)] else .tup [nilS,.v (.int .i64 2)])∧s' = s):=by
 by_cases h : (leafN name key).right
 ·rw [if_pos h]
  refine acalls_body Tryz.func11 rfl Tryz.ntmps11 Tryz.results11 (by simp) ?_
  have hc:=fun s=>leafOf20_calls (Γ:=Γ) name key hn s
  have hr:=fun s=>nodeRight_calls (Γ:=Γ) (leafN name key) (by simp [leafN]) s
  have hcells : (leafN name key).cells = [.v (.int .i64 1),bytesV name .any,.v (.int .u64 key),bytesV [] .any,intsV [] .any]:=rfl
  have htree : treeV [leafN name key] = .sl 5 1 [.v (.int .i64 1),bytesV name .any,.v (.int .u64 key),bytesV [] .any,intsV [] .any] .any:=rfl
  rw [htree]
  rw [hcells] at hc hr
  generalize leafN name key = N at *
  unfold bytesV intsV at *
  refine jA ?_
  refine awp_reg_frz 6 (by decide) ?_
  intro K hK
  simp only [↓DM,pval,DX,Nz,↓DN,Qa,Qb,Qc,Qd,Qe,Qf,Qg,Qh,reduceCtorEq,↓reduceIte,Na,Nb,Nc,Nk,Nf,Ng,Nh,Za,Zb,Zc,TT]
  refine acallk (hc _) ?_
  rintro r s1 ⟨rfl,rfl⟩
  simp only [↓DM,pval,DX,Nz,↓DN,Qa,Qb,Qc,Qd,Qe,Qf,Qg,Qh,reduceCtorEq,↓reduceIte,Na,Nb,Nc,Nk,Nf,Ng,Nh,Za,Zb,Zc,TT]
  intro o ho
  refine hK _ _ o _ (by simp only [upd,Nc,↓reduceIte]) ho ?_
  clear hK K ho
  refine wK fun K hK=>?_
  refine jQ fun K hK=>?_
  refine acallk (hr _) ?_
  rintro r s2 ⟨rfl,rfl⟩
  rw [decide_eq_true h]
  refine jR hK ?_;clear hK K
  refine jF ?_
  refine awp_skip ?_
  refine hK _ _ ?_;clear hK K
  refine jB @zrow_quin ?_
  refine jI ?_
  exact ⟨_,_,AV.weak_tup2 AV.weak_any (AV.weak.refl _),AS.le.refl _,rfl,rfl⟩
 ·rw [if_neg h]
  refine acalls_body Tryz.func11 rfl Tryz.ntmps11 Tryz.results11 (by simp) ?_
  have hc:=fun s=>leafOf20_calls (Γ:=Γ) name key hn s
  have hr:=fun s=>nodeRight_calls (Γ:=Γ) (leafN name key) (by simp [leafN]) s
  have hcells : (leafN name key).cells = [.v (.int .i64 1),bytesV name .any,.v (.int .u64 key),bytesV [] .any,intsV [] .any]:=rfl
  have htree : treeV [leafN name key] = .sl 5 1 [.v (.int .i64 1),bytesV name .any,.v (.int .u64 key),bytesV [] .any,intsV [] .any] .any:=rfl
  clear htree
  rw [hcells] at hc hr
  generalize leafN name key = N at *
  unfold bytesV intsV at *
  refine jA ?_
  refine awp_reg_frz 6 (by decide) ?_
  intro K hK
  simp only [↓DM,pval,DX,Nz,↓DN,Qa,Qb,Qc,Qd,Qe,Qf,Qg,Qh,reduceCtorEq,↓reduceIte,Na,Nb,Nc,Nk,Nf,Ng,Nh,Za,Zb,Zc,TT]
  refine acallk (hc _) ?_
  rintro r s1 ⟨rfl,rfl⟩
  simp only [↓DM,pval,DX,Nz,↓DN,Qa,Qb,Qc,Qd,Qe,Qf,Qg,Qh,reduceCtorEq,↓reduceIte,Na,Nb,Nc,Nk,Nf,Ng,Nh,Za,Zb,Zc,TT]
  intro o ho
  refine hK _ _ o _ (by simp only [upd,Nc,↓reduceIte]) ho ?_
  clear hK K ho
  refine wK fun K hK=>?_
  refine jQ fun K hK=>?_
  refine acallk (hr _) ?_
  rintro r s2 ⟨rfl,rfl⟩
  rw [decide_eq_false h]
  refine jR hK ?_;clear hK K
  refine jE ?_
  refine jA ?_
  exact jJ
end Go.Proofs.YtfjlmkifiihgkaaGreatDoor
namespace Go.AM
open Go
def goodL (L : Nat) (t : List NodeV) : Prop:=Fit L∧t.length = 2 * L - 1 ∧
    (∀ i,i < 2 * L - 1→(nd t i).right∧((nd t i).kind = 0∨((nd t i).kind = 1↔i % 2 = 0))∧∀ u ∈ (nd t i).unm,(lo i : Int)≤u∧u≤(hi i : Int)∧0≤u∧u < (L : Int)∧(nd t (2 * u.toNat)).kind = 1) ∧
    (∀ a b,a < b→b < L→(nd t (2 * a)).kind = 1→(nd t (2 * b)).kind = 1→(nd t (2 * b)).name≠(nd t (2 * a)).name)
theorem goodL.right {t : List NodeV} {L : Nat} (h : goodL L t) (k : L = 1∨∃ j,L / 2≤j∧j < L∧(nd t (2 * j)).kind = 1) : rightT t :=
  (rightT_iff h.1 h.2.1).2 ⟨h.2.2.1,h.2.2.2,k⟩
theorem goodL.lvs {t : List NodeV} {L : Nat} (h : goodL L t) : lvs t = L:=lvs_of h.1 h.2.1
theorem named_none {t : List NodeV} {name : List UInt8} (h : ¬ 0≤namedI t name 0) {L : Nat} (hL : Fit L) (hlen : t.length = 2 * L - 1) {j : Nat} (hj : j < L) (hk : (nd t (2 * j)).kind = 1) : (nd t (2 * j)).name≠name:=by
  intro e
  have hl:=lvs_of hL hlen
  have hb:=hL.le
  have h1:=firstN_ge (fun j=>decide (memI t j∧(nd t (2 * j)).name = name)) (hlf t - 0) 0
  have h2 : decide (0≤namedI t name 0) = true:=h1.2 ⟨j,Nat.zero_le _,by unfold hlf; omega,decide_eq_true ⟨(memN_iff hl _).2 ⟨hj,hk⟩,e⟩⟩
  exact h (of_decide_eq_true h2)
def keyR (key : Nat) : Prop:=2≤(key : Int)∧(key : Int)≤2305843009213693949
instance (key : Nat) : Decidable (keyR key):=by unfold keyR; infer_instance
end Go.AM
namespace Go.Proofs.YtfjlmkifiihgkaaGreatDoor
open Go Go.AM Go.Proofs
variable {Γ : Nat→List AV}
theorem treeN_ne {t : List NodeV} (h : t.length≠0) : treeN t = treeV t:=if_neg (fun e=>h (by rw [e]; rfl))
end Go.Proofs.YtfjlmkifiihgkaaGreatDoor
namespace Go.AM
open Go Go.RowKit
variable {P : Program} {Γ : Nat→List AV} {s : AS}
theorem Settles.tree {s : AS} {ob cap : Nat} {t : List NodeV} {rest : List AV} (h : s.objs ob = none) : Settles Γ (s.set ob (rowC NodeV.cells t ++ rest)) (.osl ob 0 5 t.length cap) s (treeV t):=by
  refine (Settles.outer (Γ:=Γ) (AS.set_objs_same s ob _) (row_len cells_len t)).trans (Settles.le _ ?_)
  refine ⟨fun o cs hc=>?_,fun t e he=>he⟩
  have hne : o≠ob:=by rintro rfl; rw [h] at hc; cases hc
  rw [AS.drop_objs,upd_ne _ _ hne,AS.set_objs_ne _ hne]
  exact hc
end Go.AM
namespace Go.Proofs.YtfjlmkifiihgkaaGreatDoor
open Go Go.AM Go.Proofs
variable {Γ : Nat→List AV}
theorem refLeafOf20_calls (name : List UInt8) (key : Nat) (hn : name.length≤2 ^ 45) (s : AS) : ACalls Tryz.prog Γ 58 [.v (.string ⟨name.toArray⟩),.v (.int .u64 key)] s (fun r s'=>r = .agg (leafN name key).cells∧s' = s):=by
 refine acalls_body Tryz.func58 rfl Tryz.ntmps58 Tryz.results58 (by simp) ?_
 refine jQ fun K hK=>?_
 intro o ho
 refine hK _ _ ?_;clear hK K
 refine jA ?_
 refine awp_ret ?_
 refine aends_cell (o:=o) (off:=0) (by simp only [upd,Nc,↓reduceIte]) (AS.set_objs_same _ _ _) (by rw [T.c69]; decide) (by simp only [↓DN,Qa,Qb,Qc,Qd,Qe,Qf,Qg,Qh,reduceCtorEq,↓reduceIte,Na,Nb,Nc,Nk,Nf,Ng,Nh,Za,Zb,Zc,TT]; rfl) ?_
 exact ⟨_,s,AV.weak_agg (.cons (AV.weak.refl _) (.cons AV.weak_any (.cons (AV.weak.refl _) (.cons AV.weak_nil (.cons AV.weak_nil .nil))))),AS.le_set (AS.le.refl s) ho _,rfl,rfl⟩
end Go.Proofs.YtfjlmkifiihgkaaGreatDoor
namespace Go.AM
open Go Go.RowKit
theorem nodes_weak : ∀ k : Nat,AVs.weak (List.replicate k zN).flatten (rowC NodeV.cells (List.replicate k NodeV.nought))
  | 0=>.refl _
  | k + 1=>by
    have e1 : (List.replicate (k + 1) zN).flatten = zN ++ (List.replicate k zN).flatten:=by rw [List.replicate_succ,List.flatten_cons]
    have e2 : rowC NodeV.cells (List.replicate (k + 1) NodeV.nought) = NodeV.nought.cells ++ rowC NodeV.cells (List.replicate k NodeV.nought):=by rw [List.replicate_succ]; rfl
    rw [e1,e2]
    exact AVs.weak.append (.cons (AV.weak.refl _) (.cons AV.weak_nil (.cons (AV.weak.refl _) (.cons AV.weak_nil (.cons AV.weak_nil .nil))))) (nodes_weak k)
theorem Settles.tells {Γ : Nat→List AV} {s s' : AS} (x : AV) (h : AS.tells Γ s s') : Settles Γ s x s' x:=fun G w _ hs hv=>⟨G,.refl G,h G w hs,hv⟩
theorem Settles.more {Γ : Nat→List AV} {s : AS} {ob ob' cap cap' m k : Nat} {A rest' : List AV} {t : List NodeV} (h : s.objs ob = none) (h' : (s.set ob A).objs ob' = none∨∃ c0,AV.osl ob 0 5 m cap = .osl ob' 0 5 m c0) :
    Settles Γ ((s.set ob A).set ob' (rowC NodeV.cells t ++ zrow (k * 5) zN ++ rest')) (.osl ob' 0 5 (t.length + k) cap') s (treeV (t ++ List.replicate k NodeV.nought)):=by
  have e : rowC NodeV.cells (t ++ List.replicate k NodeV.nought) = rowC NodeV.cells t ++ rowC NodeV.cells (List.replicate k NodeV.nought):=by simp only [rowC,List.map_append,List.flatten_append]
  have hl : (t ++ List.replicate k NodeV.nought).length = t.length + k:=by simp
  have hw : AVs.weak (rowC NodeV.cells t ++ zrow (k * 5) zN ++ rest') (rowC NodeV.cells (t ++ List.replicate k NodeV.nought) ++ rest'):=by
    rw [e,zrow_zN]
    exact AVs.weak.append (AVs.weak.append (.refl _) (nodes_weak k)) (.refl _)
  refine (Settles.tells _ (AS.tells_set hw)).trans ?_
  have h2:=Settles.outer (Γ:=Γ) (sz:=5) (n:=t.length + k) (cap:=cap') (AS.set_objs_same (s.set ob A) ob' (rowC NodeV.cells (t ++ List.replicate k NodeV.nought) ++ rest')) (by rw [row_len cells_len,hl])
  have h3 : treeV (t ++ List.replicate k NodeV.nought) = .sl 5 (t.length + k) (rowC NodeV.cells (t ++ List.replicate k NodeV.nought)) .any:=by unfold treeV; rw [hl]
  rw [h3]
  refine h2.trans (Settles.le _ ⟨fun o cs hc=>?_,fun t e he=>he⟩)
  have hne : o≠ob:=by rintro rfl; rw [h] at hc; cases hc
  have hne' : o≠ob':=by
    rintro rfl
    rcases h' with h' | ⟨c0,h'⟩
    · rw [AS.set_objs_ne _ hne,hc] at h'; cases h'
    · injection h' with q; exact hne q.symm
  rw [AS.drop_objs,upd_ne _ _ hne',AS.set_objs_ne _ hne',AS.set_objs_ne _ hne]
  exact hc
end Go.AM
namespace Go.Proofs.YtfjlmkifiihgkaaGreatDoor
open Go Go.AM Go.Proofs
variable {Γ : Nat→List AV}
theorem refNew20_calls (name : List UInt8) (key : Nat) (hn : name.length≤2 ^ 45) (s : AS) : ACalls Tryz.prog Γ 12 [.v (.string ⟨name.toArray⟩),.v (.int .u64 key)] s
  (fun r s'=>r = (if (leafN name key).right then .tup [treeV [leafN name key],.v (.int .i64 0)] else .tup [nilS,.v (.int .i64 2)])∧s' = s):=by
 have hc:=fun s=>refLeafOf20_calls (Γ:=Γ) name key hn s
 have hr:=fun s=>refRight19_calls (Γ:=Γ) (leafN name key) (by simp [leafN]) s
 have hcells : (leafN name key).cells = [.v (.int .i64 1),bytesV name .any,.v (.int .u64 key),bytesV [] .any,intsV [] .any]:=rfl
 have htree : treeV [leafN name key] = .sl 5 1 [.v (.int .i64 1),bytesV name .any,.v (.int .u64 key),bytesV [] .any,intsV [] .any] .any:=rfl
 rw [htree]
 rw [hcells] at hc hr
 by_cases h : (leafN name key).right
 ·rw [if_pos h]
  refine acalls_body Tryz.func12 rfl Tryz.ntmps12 Tryz.results12 (by simp) ?_
  rw [decide_eq_true h] at hr
  unfold bytesV intsV at *
  refine jA ?_
  refine awp_reg_frz 6 (by decide) ?_
  intro K hK
  simp only [↓DM,pval,DX,Nz,↓DN,Qa,Qb,Qc,Qd,Qe,Qf,Qg,Qh,reduceCtorEq,↓reduceIte,Na,Nb,Nc,Nk,Nf,Ng,Nh,Za,Zb,Zc,TT]
  refine acallk (hc _) ?_
  rintro r s1 ⟨rfl,rfl⟩
  simp only [↓DM,pval,DX,Nz,↓DN,Qa,Qb,Qc,Qd,Qe,Qf,Qg,Qh,reduceCtorEq,↓reduceIte,Na,Nb,Nc,Nk,Nf,Ng,Nh,Za,Zb,Zc,TT]
  intro o ho
  refine hK _ _ o _ (by simp only [upd,Nc,↓reduceIte]) ho ?_
  clear hK K ho
  refine wK fun K hK=>?_
  refine jK (hr _) ?_;rintro s2 rfl
  refine jF ?_
  refine awp_skip ?_
  refine hK _ _ ?_;clear hK K
  refine jB @zrow_quin ?_
  refine jI ?_
  exact ⟨_,_,AV.weak_tup2 AV.weak_any (AV.weak.refl _),AS.le.refl _,rfl,rfl⟩
 ·rw [if_neg h]
  refine acalls_body Tryz.func12 rfl Tryz.ntmps12 Tryz.results12 (by simp) ?_
  clear htree
  rw [decide_eq_false h] at hr
  unfold bytesV intsV at *
  refine jA ?_
  refine awp_reg_frz 6 (by decide) ?_
  intro K hK
  simp only [↓DM,pval,DX,Nz,↓DN,Qa,Qb,Qc,Qd,Qe,Qf,Qg,Qh,reduceCtorEq,↓reduceIte,Na,Nb,Nc,Nk,Nf,Ng,Nh,Za,Zb,Zc,TT]
  refine acallk (hc _) ?_
  rintro r s1 ⟨rfl,rfl⟩
  simp only [↓DM,pval,DX,Nz,↓DN,Qa,Qb,Qc,Qd,Qe,Qf,Qg,Qh,reduceCtorEq,↓reduceIte,Na,Nb,Nc,Nk,Nf,Ng,Nh,Za,Zb,Zc,TT]
  intro o ho
  refine hK _ _ o _ (by simp only [upd,Nc,↓reduceIte]) ho ?_
  clear hK K ho
  refine wK fun K hK=>?_
  refine jK (hr _) ?_;rintro s2 rfl
  refine jE ?_
  refine jA ?_
  exact jJ
end Go.Proofs.YtfjlmkifiihgkaaGreatDoor
namespace Go.Proofs.YtfjlmkifiihgkaaGreatDoor
open Go Go.AM Go.Proofs
variable {Γ : Nat→List AV}
instance (t : List NodeV) : Decidable (TreeW t):=by unfold TreeW; infer_instance
def smallN (n : NodeV) : Prop:=n.name.length≤40∧n.parent.length≤60∧n.unm.length≤40
def smallT (t : List NodeV) : Prop:=t.length≤63∧∀ n ∈ t,smallN n
instance (n : NodeV) : Decidable (smallN n):=by unfold smallN; infer_instance
instance (t : List NodeV) : Decidable (smallT t):=by unfold smallT; infer_instance
end Go.Proofs.YtfjlmkifiihgkaaGreatDoor
namespace Go.AM
open Go
theorem IsTy.tree {avs : List AV} (h : IsTy (.slice 5 (.struct (.cons tyI (.cons tyB (.cons (.int .u64) (.cons tyB (.cons (.slice 1 tyI) .nil))))))) avs) : ∃ t : List NodeV,avs = [treeV t]∧∀ n ∈ t,n.key < 2 ^ 64:=by
  obtain ⟨els,rfl,_,hall⟩:=IsTy.rows h
  have key : ∀ els : List (List AV),(∀ el ∈ els,el.length = 5∧IsTy (.struct (.cons tyI (.cons tyB (.cons (.int .u64) (.cons tyB (.cons (.slice 1 tyI) .nil)))))) el)→∃ t : List NodeV,els = t.map NodeV.cells∧∀ n ∈ t,n.key < 2 ^ 64:=by
    intro els
    induction els with
    | nil=>intro _; exact ⟨[],rfl,fun n hn=>by cases hn⟩
    | cons e els ih =>
      intro h
      obtain ⟨t,rfl,h2⟩:=ih (fun el hel=>h el (by simp [hel]))
      obtain ⟨_,h1⟩:=h e (by simp)
      obtain ⟨N,rfl,hN⟩:=IsTy.node h1
      refine ⟨N :: t,rfl,fun n hn=>?_⟩
      rcases List.mem_cons.1 hn with rfl | hn
      · exact hN
      · exact h2 n hn
  obtain ⟨t,rfl,h2⟩:=key els hall
  refine ⟨t,?_,h2⟩
  unfold treeV rowC
  rw [List.length_map]
end Go.AM
namespace Go.AM
open Go
def txt (k : Nat) (l : List UInt8) : List UInt8:=be k l.length ++ l
def PropV.body (p : PropV) : List UInt8:=if p.kind = 1 then txt 1 p.name ++ (be 8 p.key ++ be 8 p.init) else if p.kind = 2 then be 1 p.leaf.toNat ++ be 8 p.key else be 1 p.leaf.toNat
def PropV.text (p : PropV) : List UInt8:=be 1 p.kind.toNat ++ p.body
def SealV.wtext (x : SealV) : List UInt8:=be 8 x.frm ++ txt 2 x.text
def flatT {α : Type} (f : α→List UInt8) (l : List α) : List UInt8:=(l.map f).flatten
def StepV.text (x : StepV) : List UInt8:=be 8 x.key ++ (be 1 x.seals.length ++ flatT SealV.wtext x.seals)
def PathV.text (x : PathV) : List UInt8:=be 8 x.key ++ (txt 1 x.parent ++ (be 1 x.steps.length ++ flatT StepV.text x.steps))
def CommitV.tail (c : CommitV) : List UInt8:=if c.hasPath then be 1 1 ++ c.path.text else be 1 0
def CommitV.content (c : CommitV) : List UInt8 :=
  be 1 1 ++ (txt 1 c.group ++ (be 8 c.epoch.toNat ++ (be 1 c.sender.toNat ++ (be 1 c.props.length ++ (flatT PropV.text c.props ++ c.tail)))))
def CommitV.text (c : CommitV) : List UInt8:=c.content ++ (txt 1 c.confirm ++ txt 1 c.member)
end Go.AM
namespace Go.AM
open Go
theorem IsTy.record {avs : List AV} (h : IsTy (.struct (.cons tyI (.cons tyB (.cons tyI (.cons tyI (.cons tyI (.cons tyB (.cons tyB (.cons tyB (.cons tyB .nil)))))))))) avs) : ∃ R : Rec,avs = R.cells:=by
  obtain ⟨x1,y1,rfl,t1,h⟩:=isF_cons (isTy_struct h)
  obtain ⟨x2,y2,rfl,t2,h⟩:=isF_cons h
  obtain ⟨x3,y3,rfl,t3,h⟩:=isF_cons h
  obtain ⟨x4,y4,rfl,t4,h⟩:=isF_cons h
  obtain ⟨x5,y5,rfl,t5,h⟩:=isF_cons h
  obtain ⟨x6,y6,rfl,t6,h⟩:=isF_cons h
  obtain ⟨x7,y7,rfl,t7,h⟩:=isF_cons h
  obtain ⟨x8,y8,rfl,t8,h⟩:=isF_cons h
  obtain ⟨x9,y9,rfl,t9,h⟩:=isF_cons h
  obtain rfl:=isF_nil h
  obtain ⟨n1,rfl,_⟩:=isTy_int t1
  obtain ⟨l2,rfl,_⟩:=t2.bytes
  obtain ⟨n3,rfl,_⟩:=isTy_int t3
  obtain ⟨n4,rfl,_⟩:=isTy_int t4
  obtain ⟨n5,rfl,_⟩:=isTy_int t5
  obtain ⟨l6,rfl,_⟩:=t6.bytes
  obtain ⟨l7,rfl,_⟩:=t7.bytes
  obtain ⟨l8,rfl,_⟩:=t8.bytes
  obtain ⟨l9,rfl,_⟩:=t9.bytes
  exact ⟨⟨n1,l2,n3,n4,n5,l6,l7,l8,l9⟩,rfl⟩
end Go.AM
namespace Go.AM
namespace Kdf
variable (secret info : List UInt8)
def blk : Nat→List UInt8
  | 0=>[]
  | i + 1=>Mac.tag secret (blk i ++ info ++ [UInt8.ofNat (i + 1)])
def row : Nat→List UInt8
  | 0=>[]
  | i + 1=>row i ++ blk secret info (i + 1)
theorem blk_len (i : Nat) : (blk secret info (i + 1)).length = 32:=Mac.tag_len _ _
theorem row_len : ∀ i : Nat,(row secret info i).length = 32 * i
  | 0=>rfl
  | i + 1=>by rw [row,List.length_append,row_len i,blk_len]; omega
def rounds (n : Nat) : Nat:=(n + 31) / 32
def expand (n : Nat) : List UInt8:=(row secret info (rounds n)).take n
def ok (n : Int) : Bool:=decide (0≤n) && decide (n≤8160)
def get (n : Int) : List UInt8:=if ok n = true then expand secret info n.toNat else []
end Kdf
end Go.AM
namespace Go.AM
namespace Kdf
def mls : List UInt8:=[109,108,115,32]
def fits (l c : List UInt8) (n : Int) : Bool:=decide (l.length≤251) && decide (c.length≤65535) && decide (0≤n) && decide (n≤8160)
def text (l c : List UInt8) (n : Nat) : List UInt8:=be 2 n ++ (be 1 (mls ++ l).length ++ (mls ++ l)) ++ (be 2 c.length ++ c)
def label (secret l c : List UInt8) (n : Int) : List UInt8:=if fits l c n = true then expand secret (text l c n.toNat) n.toNat else []
def derive (secret l : List UInt8) : List UInt8:=label secret (l.take 251) [] 32
def pen (l c : List UInt8) (n : Int) : List UInt8 × Bool:=penText 2 c (penText 1 (mls ++ l) (penSmall 2 n ([],false)))
end Kdf
end Go.AM
namespace Go.AM
namespace Sch
def epochW : List UInt8:=[101,112,111,99,104]
def welcomeW : List UInt8:=[119,101,108,99,111,109,101]
def exporterW : List UInt8:=[101,120,112,111,114,116,101,114]
def confirmW : List UInt8:=[99,111,110,102,105,114,109]
def memberW : List UInt8:=[109,101,109,98,101,114,115,104,105,112]
def initW : List UInt8:=[105,110,105,116]
def main (j : List UInt8) : List UInt8:=Mac.tag j (List.replicate 32 0)
def epoch (j c : List UInt8) : List UInt8:=Kdf.label (main j) epochW c 32
def of (j c : List UInt8) : List (List UInt8):=[j,Kdf.derive (main j) welcomeW,Kdf.derive (epoch j c) exporterW,Kdf.derive (epoch j c) confirmW,Kdf.derive (epoch j c) memberW,Kdf.derive (epoch j c) initW]
end Sch
end Go.AM
namespace Go.AM
namespace Aes
def dbl (a : UInt8) : UInt8:=(a <<< (1 : UInt8)) ^^^ ((27 : UInt8) &&& ((0 : UInt8) - (a >>> (7 : UInt8))))
def gm : Nat→UInt8→UInt8→UInt8→UInt8
  | 0,o,_,_=>o
  | f + 1,o,a,b=>gm f (o ^^^ (a &&& ((0 : UInt8) - (b &&& 1)))) (dbl a) (b >>> 1)
def pw : Nat→UInt8→UInt8→Nat→UInt8
  | 0,o,_,_=>o
  | f + 1,o,a,n=>pw f (if n % 2 = 1 then gm 8 0 o a else o) (gm 8 0 a a) (n / 2)
def inv (a : UInt8) : UInt8:=pw 8 1 a 254
def rot (x : UInt8) (i : Nat) : UInt8:=UInt8.ofNat (x.toNat * 2 ^ i) ||| UInt8.ofNat (x.toNat / 2 ^ (8 - i))
def boxP (x : UInt8) : Nat→UInt8
  | 0=>99 ^^^ x
  | k + 1=>boxP x k ^^^ rot x (k + 1)
def box (c : UInt8) : UInt8:=boxP (inv c) 4
def sb : List UInt8:=[99,124,119,123,242,107,111,197,48,1,103,43,254,215,171,118,202,130,201,125,250,89,71,240,173,212,162,175,156,164,114,192,183,253,147,38,54,63,247,204,52,165,229,241,113,216,49,21,4,199,35,195,24,150,5,154,7,18,128,226,235,39,178,117,9,131,44,26,27,110,90,160,82,59,214,179,41,227,47,132,83,209,0,237,32,252,177,91,106,203,190,57,74,76,88,207,208,239,170,251,67,77,51,133,69,249,2,127,80,60,159,168,81,163,64,143,146,157,56,245,188,182,218,33,16,255,243,210,205,12,19,236,95,151,68,23,196,167,126,61,100,93,25,115,96,129,79,220,34,42,144,136,70,238,184,20,222,94,11,219,224,50,58,10,73,6,36,92,194,211,172,98,145,149,228,121,231,200,55,109,141,213,78,169,108,86,244,234,101,122,174,8,186,120,37,46,28,166,180,198,232,221,116,31,75,189,139,138,112,62,181,102,72,3,246,14,97,53,87,185,134,193,29,158,225,248,152,17,105,217,142,148,155,30,135,233,206,85,40,223,140,161,137,13,191,230,66,104,65,153,45,15,176,84,187,22]
def S (x : UInt8) : UInt8:=sb.getD x.toNat 0
def pwr : Nat→UInt8
  | 0=>1
  | r + 1=>dbl (pwr r)
def nx (k : List UInt8) (p : UInt8) : List UInt8 :=
  match k with
  | [k0,k1,k2,k3,k4,k5,k6,k7,k8,k9,k10,k11,k12,k13,k14,k15] =>
    let a0:=(k0 ^^^ S k13) ^^^ p
    let a1:=k1 ^^^ S k14
    let a2:=k2 ^^^ S k15
    let a3:=k3 ^^^ S k12
    let b0:=k4 ^^^ a0
    let b1:=k5 ^^^ a1
    let b2:=k6 ^^^ a2
    let b3:=k7 ^^^ a3
    let c0:=k8 ^^^ b0
    let c1:=k9 ^^^ b1
    let c2:=k10 ^^^ b2
    let c3:=k11 ^^^ b3
    [a0,a1,a2,a3,b0,b1,b2,b3,c0,c1,c2,c3,k12 ^^^ c0,k13 ^^^ c1,k14 ^^^ c2,k15 ^^^ c3]
  | _=>[]
def kr (key : List UInt8) : Nat→List UInt8
  | 0=>key
  | r + 1=>nx (kr key r) (pwr r)
def sh (b : List UInt8) (n : Nat) : UInt8:=S (b.getD (4 * ((n / 4 + n % 4) % 4) + n % 4) 0)
def mx (c : Nat→UInt8) (i : Nat) : UInt8:=(((dbl (c i) ^^^ dbl (c ((i + 1) % 4))) ^^^ c ((i + 1) % 4)) ^^^ c ((i + 2) % 4)) ^^^ c ((i + 3) % 4)
def rnd (b : List UInt8) (last : Bool) : List UInt8:=(List.range 16).map fun n=>if last then sh b n else mx (fun i=>sh b (4 * (n / 4) + i)) (n % 4)
def add (b k : List UInt8) : List UInt8:=(List.range 16).map fun n=>b.getD n 0 ^^^ k.getD n 0
def state (key b : List UInt8) : Nat→List UInt8
  | 0=>add b (kr key 0)
  | r + 1=>add (rnd (state key b r) (r + 1 == 10)) (kr key (r + 1))
def block (key b : List UInt8) : List UInt8:=state key b 10
def first (nonce : List UInt8) : Nat:=beNat (nonce.drop 12)
def ctr (nonce : List UInt8) (i : Nat) : List UInt8:=nonce.take 12 ++ be 4 ((first nonce + i) % 4294967296)
def maskB (key nonce : List UInt8) (p : Nat) : UInt8:=(block (key.take 16) (ctr nonce (p / 16))).getD (p % 16) 0
def mask (key nonce text : List UInt8) : List UInt8:=(List.range text.length).map fun p=>text.getD p 0 ^^^ maskB key nonce p
def tag (key nonce beside masked : List UInt8) : List UInt8:=(Mac.tag (key.drop 16) (be 4 beside.length ++ (beside ++ (nonce ++ masked)))).take 16
theorem tag_len (key nonce beside masked : List UInt8) : (tag key nonce beside masked).length = 16:=by simp [tag,Mac.tag_len]
end Aes
end Go.AM
namespace Go.AM
namespace Vault
def k0 : List UInt8:=[169,244,63,67,64,52,17,249,117,86,100,57,122,167,125,1,230,91,103,131,115,144,199,68,248,159,166,218,250,248,1,114,135,15,162,208,108,252,211,18,83,148,90,178,179,251,67,14]
def n3 : List UInt8:=[8,190,219,198,217,21,206,227,25,6,89,27,186,224,186,54]
def n4 : List UInt8:=[184,102,163,253,77,158,128,5,108,65,104,250,253,115,180,138]
def m3 : List UInt8:=[247,169,26,226,24,129,224,169,173,123,5,148,71,154,82,74,108,148,179,118,179,215,27,211,244,97,172,107,233,136,76,169]
def t3 : List UInt8:=[8,206,240,108,85,27,1,138,119,108,80,208,57,159,143,149]
end Vault
end Go.AM
namespace Go.AM
open Go
def smallX (l : List (List UInt8)) : Prop:=l.length≤12∧∀ b ∈ l,b.length≤4000
instance (l : List (List UInt8)) : Decidable (smallX l):=by unfold smallX; infer_instance
end Go.AM
namespace Go.AM
open Go
structure ActV where
  kind : Int
  leaf : Int
  name : List UInt8
  key : Nat
def ActV.cells (a : ActV) : List AV:=[.v (.int .i64 a.kind),.v (.int .i64 a.leaf),bytesV a.name .any,.v (.int .u64 a.key)]
theorem IsTy.act {avs : List AV} (h : IsTy (.struct (.cons tyI (.cons tyI (.cons tyB (.cons (.int .u64) .nil))))) avs) : ∃ a : ActV,avs = a.cells∧a.key < 2 ^ 64:=by
  obtain ⟨x1,y1,rfl,t1,h⟩:=isF_cons (isTy_struct h)
  obtain ⟨x2,y2,rfl,t2,h⟩:=isF_cons h
  obtain ⟨x3,y3,rfl,t3,h⟩:=isF_cons h
  obtain ⟨x4,y4,rfl,t4,h⟩:=isF_cons h
  obtain rfl:=isF_nil h
  obtain ⟨n1,rfl,_⟩:=isTy_int t1
  obtain ⟨n2,rfl,_⟩:=isTy_int t2
  obtain ⟨l3,rfl,_⟩:=t3.bytes
  obtain ⟨n4,rfl,w4⟩:=isTy_int t4
  obtain ⟨m4,rfl,h4⟩:=nat_u64 w4
  exact ⟨⟨n1,n2,l3,m4⟩,rfl,h4⟩
theorem fold_key {n : NodeV} (h : n.right) : n.key < 2 ^ 64:=by
  rcases node_kind h with hk | hk | hk
  · rw [(right_zero hk).1 h]; decide
  · have:=((right_one hk).1 h).2.2.1.2.1; omega
  · have:=((right_two hk).1 h).2.1.2.1; omega
theorem fold_W {t : List NodeV} (h : rightT t) : TreeW t:=by
  have hl:=h.len
  have:=hl.2.le
  refine ⟨by omega,fun n hn=>⟨by have:=(right_small (h.nodes hn)).2.2; omega,fold_key (h.nodes hn)⟩⟩
theorem right_ne {t : List NodeV} (h : rightT t) : t.length≠0:=by
  have:=h.len
  have:=this.2.le
  omega
end Go.AM
namespace Go.AM
open Go
def StepOk (t T : List NodeV) (f : Int) (k : Nat) : Prop:=TreeW T∧(f = 0→rightT T∨(T = t∧k = 3))
theorem fold_nilW : TreeW []:=⟨by simp,fun n hn=>by cases hn⟩
theorem StepOk.of {t T : List NodeV} {f : Int} {k : Nat} (h : (T = []∧f≠0)∨(rightT T∧f = 0)) : StepOk t T f k:=by
  rcases h with ⟨rfl,h⟩ | ⟨h1,h2⟩
  · exact ⟨fold_nilW,fun e=>absurd e h⟩
  · exact ⟨fold_W h1,fun _=>.inl h1⟩
end Go.AM
namespace Go.AM
open Go
structure StV where
  group : List UInt8
  epoch : Int
  tree : List NodeV
  conf : List UInt8
  inter : List UInt8
  deriving DecidableEq
def StV.nought : StV:=⟨[],0,[],[],[]⟩
def StV.cells (s : StV) : List AV:=[bytesV s.group .any,.v (.int .i64 s.epoch),treeV s.tree,bytesV s.conf .any,bytesV s.inter .any]
theorem StV.cells_len (s : StV) : s.cells.length = 5:=rfl
def StV.right (s : StV) : Prop:=(1≤s.group.length∧s.group.length≤16)∧0≤s.epoch∧s.epoch≤1048576∧rightT s.tree∧s.conf.length = 32∧s.inter.length = 32
instance (s : StV) : Decidable s.right:=by unfold StV.right; infer_instance
def StV.wf (s : StV) : Prop:=TreeW s.tree
def StV.text (s : StV) : List UInt8:=txt 1 s.group ++ (be 8 s.epoch.toNat ++ (treeText s.tree ++ (txt 1 s.conf ++ (txt 1 s.inter ++ []))))
def readSt (b : List UInt8) : StV × EyeSt :=
  let g:=eyeText 1 16 (b,0)
  let e:=eyeNum 8 g.2
  let t:=treeRead e.2
  let c:=eyeText 1 32 t.2
  let i:=eyeText 1 32 c.2
  (⟨g.1,iconv .i64 (e.1 : Int),t.1,c.1,i.1⟩,i.2)
def stRead (b : List UInt8) : StV × Int :=
  if eyeEnd (readSt b).2 = 0 then (if (readSt b).1.right then ((readSt b).1,0) else (StV.nought,12)) else (StV.nought,eyeEnd (readSt b).2)
theorem readSt_W (b : List UInt8) : (readSt b).1.wf:=by
  show TreeW (treeRead _).1
  generalize (eyeNum 8 (eyeText 1 16 (b,0)).2).2 = st
  by_cases h : (treeRead st).2.2 = 0
  · exact fold_W (treeRead_right h)
  · rw [treeRead_none h]; exact fold_nilW
theorem nought_W : StV.nought.wf:=fold_nilW
theorem stRead_W (b : List UInt8) : (stRead b).1.wf:=by
  unfold stRead
  split
  · split
    · exact readSt_W b
    · exact nought_W
  · exact nought_W
abbrev tyNodes : Ty:=.slice 5 (.struct (.cons tyI (.cons tyB (.cons (.int .u64) (.cons tyB (.cons (.slice 1 tyI) .nil))))))
theorem IsTy.state {avs : List AV} (h : IsTy (.struct (.cons tyB (.cons tyI (.cons tyNodes (.cons tyB (.cons tyB .nil)))))) avs) : ∃ s : StV,avs = s.cells∧∀ n ∈ s.tree,n.key < 2 ^ 64:=by
  obtain ⟨x1,y1,rfl,t1,h⟩:=isF_cons (isTy_struct h)
  obtain ⟨x2,y2,rfl,t2,h⟩:=isF_cons h
  obtain ⟨x3,y3,rfl,t3,h⟩:=isF_cons h
  obtain ⟨x4,y4,rfl,t4,h⟩:=isF_cons h
  obtain ⟨x5,y5,rfl,t5,h⟩:=isF_cons h
  obtain rfl:=isF_nil h
  obtain ⟨l1,rfl,_⟩:=t1.bytes
  obtain ⟨n2,rfl,_⟩:=isTy_int t2
  obtain ⟨l3,rfl,h3⟩:=IsTy.tree t3
  obtain ⟨l4,rfl,_⟩:=t4.bytes
  obtain ⟨l5,rfl,_⟩:=t5.bytes
  exact ⟨⟨l1,n2,l3,l4,l5⟩,rfl,h3⟩
end Go.AM
namespace Go.Proofs.YtfjlmkifiihgkaaGreatDoor
open Go Go.AM Go.Proofs
variable {Γ : Nat→List AV}
theorem pubNamed_calls (l : List UInt8) (s : AS) : ACalls Tryz.prog Γ 99 [bytesV l .any] s (fun r s'=>r = .v (.bool (decide (1≤l.length∧l.length≤16)))∧s' = s):=by
 refine acalls_body Tryz.func99 rfl Tryz.ntmps99 Tryz.results99 (by simp) ?_
 unfold bytesV
 refine jA ?_
 rcases ff2 (decide ((1 : Int)≤(l.length : Int))) (decide ((l.length : Int)≤16)) with hd | hd | hd
 all_goals
  refine jB @hd ?_
  refine jI ?_
  refine ⟨_,_,AV.weak.refl _,AS.le.refl _,?_,rfl⟩
  simp only [decide_eq_true_eq,decide_eq_false_iff_not] at hd
  congr 2
  first
   | exact (decide_eq_true (by omega)).symm
   | exact (decide_eq_false (by omega)).symm
theorem pubRight_calls (hG : Γ 3 = dB64.map u8C) (S : StV) (ht : S.wf) (s : AS) : ACalls Tryz.prog Γ 33 [.agg S.cells] s (fun r s'=>r = .v (.bool (decide S.right))∧s' = s):=by
 refine acalls_body Tryz.func33 rfl Tryz.ntmps33 Tryz.results33 (by simp) ?_
 have h1:=fun s=>pubNamed_calls (Γ:=Γ) S.group s
 have h2:=fun s=>right20_calls (Γ:=Γ) hG S.tree ht s
 obtain ⟨Z,hZ⟩ : ∃ Z : Bool,Z = decide S.right:=⟨_,rfl⟩
 rw [← hZ]
 have hS : Z = true↔(1≤S.group.length∧S.group.length≤16)∧0≤S.epoch∧S.epoch≤1048576∧rightT S.tree∧S.conf.length = 32∧S.inter.length = 32:=by rw [hZ,decide_eq_true_iff]; exact Iff.rfl
 clear hZ
 obtain ⟨g,e,t,c,i⟩:=S
 unfold StV.cells
 simp only at *
 obtain ⟨A,hA⟩ : ∃ A : Bool,A = decide (1≤g.length∧g.length≤16):=⟨_,rfl⟩
 rw [← hA] at h1
 unfold treeV bytesV at *
 generalize rowC NodeV.cells t = X at *
 refine awp_reg_frz 1 (by decide) ?_
 intro K hK
 simp only [↓DM,pval,DX,Nz,↓DN,Qa,Qb,Qc,Qd,Qe,Qf,Qg,Qh,reduceCtorEq,↓reduceIte,Na,Nb,Nc,Nk,Nf,Ng,Nh,Za,Zb,Zc,TT]
 intro o ho
 refine hK _ _ o _ (by simp only [upd,Nc,↓reduceIte]) ho ?_
 clear hK K ho
 refine jQ fun K hK=>?_
 refine acallk (h1 _) ?_
 rintro r s1 ⟨rfl,rfl⟩
 rcases ff3 A (decide (0≤e)) (decide (e≤1048576)) with hd | hd | hd | hd
 case inr.inr.inr =>
  rcases ff3 (decide (rightT t)) ((c.length : Int) == 32) ((i.length : Int) == 32) with he | he | he | he
  all_goals
   simp only [↓DM,pval,DX,Nz,↓DN,Qa,Qb,Qc,Qd,Qe,Qf,Qg,Qh,reduceCtorEq,↓reduceIte,Na,Nb,Nc,Nk,Nf,Ng,Nh,Za,Zb,Zc,TT,hd]
   refine acallk (h2 _) ?_
   rintro r s2 ⟨rfl,rfl⟩
   refine jV (Ai @hd @he) hK ?_;clear hK K
   refine jI ?_
   refine ⟨_,_,AV.weak.refl _,AS.le.refl _,?_,rfl⟩
   simp only [hA,decide_eq_true_eq,decide_eq_false_iff_not,beq_iff_eq,beq_eq_false_iff_ne,ne_eq] at hd he
   have hQ : Z = true↔rightT t∧c.length = 32∧i.length = 32:=by
    rw [hS]
    exact ⟨fun h=>h.2.2.2,fun h=>⟨hd.1,hd.2.1,hd.2.2,h⟩⟩
   congr 2
   first
    | exact (hQ.2 ⟨he.1,by omega,by omega⟩).symm
    | exact (Bool.eq_false_iff.2 fun h=>by
      have:=hQ.1 h
      first
       | exact he this.1
       | omega).symm
 all_goals
  refine jV @hd hK ?_;clear hK K
  refine jI ?_
  refine ⟨_,_,AV.weak.refl _,AS.le.refl _,?_,rfl⟩
  simp only [hA,decide_eq_true_eq,decide_eq_false_iff_not] at hd
  congr 2
  exact (Bool.eq_false_iff.2 fun h=>by
   obtain ⟨q1,q2,q3,-⟩:=hS.1 h
   first
    | exact hd q1
    | exact hd.2 q2
    | exact hd.2.2 q3).symm
theorem refPubRight_calls (S : StV) (ht : S.wf) (s : AS) : ACalls Tryz.prog Γ 41 [.agg S.cells] s (fun r s'=>r = .v (.bool (decide S.right))∧s' = s):=by
 refine acalls_body Tryz.func41 rfl Tryz.ntmps41 Tryz.results41 (by simp) ?_
 have h2:=fun s=>refRight20_calls (Γ:=Γ) S.tree ht s
 obtain ⟨Z,hZ⟩ : ∃ Z : Bool,Z = decide S.right:=⟨_,rfl⟩
 rw [← hZ]
 have hS : Z = true↔(1≤S.group.length∧S.group.length≤16)∧0≤S.epoch∧S.epoch≤1048576∧rightT S.tree∧S.conf.length = 32∧S.inter.length = 32:=by rw [hZ,decide_eq_true_iff]; exact Iff.rfl
 clear hZ
 obtain ⟨g,e,t,c,i⟩:=S
 unfold StV.cells
 simp only at *
 unfold treeV bytesV at *
 generalize rowC NodeV.cells t = X at *
 refine awp_reg_frz 1 (by decide) ?_
 intro K hK
 simp only [↓DM,pval,DX,Nz,↓DN,Qa,Qb,Qc,Qd,Qe,Qf,Qg,Qh,reduceCtorEq,↓reduceIte,Na,Nb,Nc,Nk,Nf,Ng,Nh,Za,Zb,Zc,TT]
 intro o ho
 refine hK _ _ o _ (by simp only [upd,Nc,↓reduceIte]) ho ?_
 clear hK K ho
 rcases ff4 (decide ((1 : Int)≤(g.length : Int))) (decide ((g.length : Int)≤16)) (decide (0≤e)) (decide (e≤1048576)) with hd | hd | hd | hd | hd
 case inr.inr.inr.inr =>
  rcases ff3 (decide (rightT t)) ((c.length : Int) == 32) ((i.length : Int) == 32) with he | he | he | he
  all_goals
   refine jS @hd fun K hK=>?_
   refine acallk (h2 _) ?_
   rintro r s2 ⟨rfl,rfl⟩
   refine jV (Ai @hd @he) hK ?_;clear hK K
   refine jI ?_
   refine ⟨_,_,AV.weak.refl _,AS.le.refl _,?_,rfl⟩
   simp only [decide_eq_true_eq,decide_eq_false_iff_not,beq_iff_eq,beq_eq_false_iff_ne,ne_eq] at hd he
   have hQ : Z = true↔rightT t∧c.length = 32∧i.length = 32:=by
    rw [hS]
    exact ⟨fun h=>h.2.2.2,fun h=>⟨by omega,hd.2.2.1,hd.2.2.2,h⟩⟩
   congr 2
   first
    | exact (hQ.2 ⟨he.1,by omega,by omega⟩).symm
    | exact (Bool.eq_false_iff.2 fun h=>by
      have:=hQ.1 h
      first
       | exact he this.1
       | omega).symm
 all_goals
  refine jB @hd ?_
  refine jI ?_
  refine ⟨_,_,AV.weak.refl _,AS.le.refl _,?_,rfl⟩
  simp only [decide_eq_true_eq,decide_eq_false_iff_not] at hd
  congr 2
  exact (Bool.eq_false_iff.2 fun h=>by
   obtain ⟨q1,q2,q3,-⟩:=hS.1 h
   omega).symm
theorem refPubSame_calls (S T : StV) (ht : S.wf) (s : AS) : ACalls Tryz.prog Γ 32 [.agg S.cells,.agg T.cells] s (fun r s'=>r = .v (.bool (decide (S = T)))∧s' = s):=by
 refine acalls_body Tryz.func32 rfl Tryz.ntmps32 Tryz.results32 (by simp) ?_
 have h2:=fun s=>same20_calls (Γ:=Γ) S.tree T.tree ht s
 obtain ⟨Z,hZ⟩ : ∃ Z : Bool,Z = decide (S = T):=⟨_,rfl⟩
 rw [← hZ]
 obtain ⟨g,e,t,c,i⟩:=S
 obtain ⟨g',e',t',c',i'⟩:=T
 have hS : Z = true↔g = g'∧e = e'∧t = t'∧c = c'∧i = i':=by rw [hZ,decide_eq_true_iff,StV.mk.injEq]
 clear hZ
 unfold StV.cells
 simp only at *
 unfold treeV bytesV at *
 generalize rowC NodeV.cells t = X at *
 generalize rowC NodeV.cells t' = X' at *
 refine awp_reg_frz2 2 3 (by decide) (by decide) (by decide) ?_
 intro K hK
 simp only [↓DM,pval,DX,Nz,↓DN,Qa,Qb,Qc,Qd,Qe,Qf,Qg,Qh,reduceCtorEq,↓reduceIte,Na,Nb,Nc,Nk,Nf,Ng,Nh,Za,Zb,Zc,TT]
 intro o1 h1 o2 h3
 refine hK _ _ o1 o2 _ _ (by simp only [upd,Nc,↓reduceIte]) (by simp only [upd,Nc,↓reduceIte]) h1 (by rw [AS.set_objs_eq]; exact h3) ?_
 clear hK K h1 h3
 rcases ff2 (g == g') (e == e') with hd | hd | hd
 case inr.inr =>
  rcases ff3 (decide (t = t')) (c == c') (i == i') with he | he | he | he
  all_goals
   refine jS @hd fun K hK=>?_
   refine acallk (h2 _) ?_
   rintro r s2 ⟨rfl,rfl⟩
   refine jV (Ai @hd @he) hK ?_;clear hK K
   refine jI ?_
   refine ⟨_,_,AV.weak.refl _,AS.le.refl _,?_,rfl⟩
   simp only [decide_eq_true_eq,decide_eq_false_iff_not,beq_iff_eq,beq_eq_false_iff_ne,ne_eq] at hd he
   have hQ : Z = true↔t = t'∧c = c'∧i = i':=by
    rw [hS]
    exact ⟨fun h=>h.2.2,fun h=>⟨hd.1,hd.2,h⟩⟩
   congr 2
   first
    | exact (hQ.2 he).symm
    | exact (Bool.eq_false_iff.2 fun h=>by
      have:=hQ.1 h
      first
       | exact he this.1
       | exact he.2 this.2.1
       | exact he.2.2 this.2.2).symm
 all_goals
  refine jB @hd ?_
  refine jI ?_
  refine ⟨_,_,AV.weak.refl _,AS.le.refl _,?_,rfl⟩
  simp only [beq_iff_eq,beq_eq_false_iff_ne,ne_eq] at hd
  congr 2
  exact (Bool.eq_false_iff.2 fun h=>by
   have:=hS.1 h
   first
    | exact hd this.1
    | exact hd.2 this.2.1).symm
end Go.Proofs.YtfjlmkifiihgkaaGreatDoor
namespace Go.Proofs.YtfjlmkifiihgkaaGreatDoor
open Go Go.AM Go.Proofs
variable {Γ : Nat→List AV}
theorem partsB_dub (a b : List UInt8) : PartsB [a,b] = [bytesV a .any,bytesV b .any]:=rfl
theorem shaV_calls (hG0 : Γ 0 = stC Sha.H0) (hG1 : Γ 1 = Sha.K.map wV) (ls : List (List UInt8)) (sp : Sp) (hn : ls.length≤2 ^ 40) (hl : ls.flatten.length≤2 ^ 40) (s : AS) :
  ACalls Tryz.prog Γ 94 [.sl 1 ls.length (PartsB ls) sp] s (fun r s'=>r = bytesV (Sha.sum ls.flatten) .any∧s' = s):=by
 refine ACalls.settle (sum_calls hG0 hG1 ls sp hn hl s) ?_
 intro r s1 ho
 exact ⟨s,_,(Settles.weak ho.weak).trans (Settles.le _ ho.1),rfl,rfl⟩
def zeros32 : List UInt8:=List.replicate 32 0
theorem zeros32_map : List.replicate 32 (AV.v (.int .u8 0)) = zeros32.map byteV:=by unfold zeros32; rw [List.map_replicate]; rfl
theorem zeros32_len : zeros32.length = 32:=by decide
def firstT (g n : List UInt8) (k : Nat) : StV × Int :=
 if (leafN n k).right∧1≤g.length∧g.length≤16 then (⟨g,0,[leafN n k],zeros32,Sha.sum (zeros32 ++ zeros32)⟩,0) else (StV.nought,2)
theorem noughtS_weak : (AV.agg [.v (.slice none 0 0),.v (.int .i64 0),.v (.slice none 0 0),.v (.slice none 0 0),.v (.slice none 0 0)]).weak (.agg StV.nought.cells) :=
 AV.weak_agg (.cons AV.weak_nil (.cons (AV.weak.refl _) (.cons AV.weak_nil (.cons AV.weak_nil (.cons AV.weak_nil .nil)))))
theorem pubFirst_calls (hG0 : Γ 0 = stC Sha.H0) (hG1 : Γ 1 = Sha.K.map wV) (g n : List UInt8) (k : Nat) (hg : g.length≤2 ^ 40) (hn : n.length≤2 ^ 40) (s : AS) :
  ACalls Tryz.prog Γ 36 [bytesV g .any,bytesV n .any,.v (.int .u64 k)] s (fun r s'=>r = .tup [.agg (firstT g n k).1.cells,.v (.int .i64 (firstT g n k).2)]∧s' = s):=by
 have h1:=fun s=>new20_calls (Γ:=Γ) n k (by omega) s
 have h2:=fun s=>pubNamed_calls (Γ:=Γ) g s
 have h3:=fun s=>bytesClone_calls (Γ:=Γ) g s (by omega)
 have h4:=fun s=>shaV_calls (Γ:=Γ) hG0 hG1 [zeros32,zeros32] .new (by decide) (by decide +kernel) s
 rw [show [zeros32,zeros32].flatten = zeros32 ++ zeros32 from by simp,partsB_dub] at h4
 unfold firstT
 have hT : treeV [leafN n k] = .sl 5 1 (rowC NodeV.cells [leafN n k]) .any:=rfl
 rw [hT] at h1
 have hcl : (⟨g,0,[leafN n k],zeros32,Sha.sum (zeros32 ++ zeros32)⟩ : StV).cells = [bytesV g .any,.v (.int .i64 0),.sl 5 1 (rowC NodeV.cells [leafN n k]) .any,.sl 1 32 (zeros32.map byteV) .any,bytesV (Sha.sum (zeros32 ++ zeros32)) .any]:=rfl
 have hzz : bytesV zeros32 .any = .sl 1 32 (zeros32.map byteV) .any:=rfl
 rw [hzz] at h4
 have hzm:=zeros32_map
 have hzl : (zeros32.map byteV).length = 32:=by rw [List.length_map,zeros32_len]
 generalize Sha.sum (zeros32 ++ zeros32) = D at *
 generalize zeros32 = Z at *
 generalize rowC NodeV.cells [leafN n k] = X at *
 refine acalls_body Tryz.func36 rfl Tryz.ntmps36 Tryz.results36 (by simp) ?_
 unfold bytesV at *
 refine jQ fun K hK=>?_
 intro o ho
 refine hK _ _ ?_;clear hK K
 by_cases hr : (leafN n k).right
 ·rw [if_pos hr] at h1
  by_cases ha : 1≤g.length∧g.length≤16
  ·rw [if_pos ⟨hr,ha⟩,hcl]
   refine jK (h1 _) ?_;rintro s1 rfl
   refine wK fun K hK=>?_
   refine jQ fun K hK=>?_
   refine acallk (h2 _) ?_
   rintro r s2 ⟨rfl,rfl⟩
   refine jV (Ai (decide_eq_true ha) (show ((0 : Int) != 0) = false from rfl)) hK ?_;clear hK K
   refine jF ?_
   refine awp_skip ?_
   refine hK _ _ ?_;clear hK K
   refine awp_reg_stl 10 (by decide) ?_
   intro K hK
   simp only [↓DM,pval,DX,Nz,↓DN,Qa,Qb,Qc,Qd,Qe,Qf,Qg,Qh,reduceCtorEq,↓reduceIte,Na,Nb,Nc,Nk,Nf,Ng,Nh,Za,Zb,Zc,TT,hzm]
   refine ⟨by decide,by decide,fun o2 ho2=>?_⟩
   refine hK _ _ _ _ (Settles.made (sp:=.any) ho2 hzl) ?_
   clear hK K
   refine wS fun K hK=>?_
   simp only [↓DN,Qa,Qb,Qc,Qd,Qe,Qf,Qg,Qh,reduceCtorEq,↓reduceIte,Na,Nb,Nc,Nk,Nf,Ng,Nh,Za,Zb,Zc,TT,List.replicate_succ,List.replicate_zero]
   refine acallk (h3 _) ?_
   rintro r s3 ⟨rfl,rfl⟩
   simp only [↓DM,pval,DX,Nz,↓DN,Qa,Qb,Qc,Qd,Qe,Qf,Qg,Qh,reduceCtorEq,↓reduceIte,Na,Nb,Nc,Nk,Nf,Ng,Nh,Za,Zb,Zc,TT]
   refine acallk (h4 _) ?_
   rintro r s4 ⟨rfl,rfl⟩
   refine jV @AS.set_objs_same hK ?_;clear hK K
   refine awp_ret ?_
   refine aends_cell_tmp (o:=o) (off:=0) (by simp only [upd,Nc,↓reduceIte]) (AS.set_objs_same _ _ _) (by rw [T.c48]; decide) (by simp only [↓DN,Qa,Qb,Qc,Qd,Qe,Qf,Qg,Qh,reduceCtorEq,↓reduceIte,Na,Nb,Nc,Nk,Nf,Ng,Nh,Za,Zb,Zc,TT]; rfl) ?_
   exact ⟨_,s,AV.weak.refl _,AS.le_set (AS.le.refl s) ho _,rfl,rfl⟩
  ·rw [if_neg (fun h=>ha h.2)]
   refine jK (h1 _) ?_;rintro s1 rfl
   refine wK fun K hK=>?_
   refine jQ fun K hK=>?_
   refine acallk (h2 _) ?_
   rintro r s2 ⟨rfl,rfl⟩
   refine jV (decide_eq_false ha) hK ?_;clear hK K
   refine jE ?_
   refine jB @AS.set_objs_same ?_
   refine awp_ret ?_
   refine aends_cell_tmp (o:=o) (off:=0) (by simp only [upd,Nc,↓reduceIte]) (AS.set_objs_same _ _ _) (by rw [T.c48]; decide) (by simp only [↓DN,Qa,Qb,Qc,Qd,Qe,Qf,Qg,Qh,reduceCtorEq,↓reduceIte,Na,Nb,Nc,Nk,Nf,Ng,Nh,Za,Zb,Zc,TT]; rfl) ?_
   exact ⟨_,s,AV.weak_tup2 noughtS_weak (AV.weak.refl _),AS.le_set (AS.le.refl s) ho _,rfl,rfl⟩
 ·rw [if_neg hr] at h1
  rw [if_neg (fun h=>hr h.1)]
  unfold nilS at h1
  refine jK (h1 _) ?_;rintro s1 rfl
  by_cases ha : 1≤g.length∧g.length≤16
  ·refine wK fun K hK=>?_
   refine jQ fun K hK=>?_
   refine acallk (h2 _) ?_
   rintro r s2 ⟨rfl,rfl⟩
   refine jV (Ai (decide_eq_true ha) (show ((2 : Int) != 0) = true from rfl)) hK ?_;clear hK K
   refine jE ?_
   refine jB @AS.set_objs_same ?_
   refine awp_ret ?_
   refine aends_cell_tmp (o:=o) (off:=0) (by simp only [upd,Nc,↓reduceIte]) (AS.set_objs_same _ _ _) (by rw [T.c48]; decide) (by simp only [↓DN,Qa,Qb,Qc,Qd,Qe,Qf,Qg,Qh,reduceCtorEq,↓reduceIte,Na,Nb,Nc,Nk,Nf,Ng,Nh,Za,Zb,Zc,TT]; rfl) ?_
   exact ⟨_,s,AV.weak_tup2 noughtS_weak (AV.weak.refl _),AS.le_set (AS.le.refl s) ho _,rfl,rfl⟩
  ·refine wK fun K hK=>?_
   refine jQ fun K hK=>?_
   refine acallk (h2 _) ?_
   rintro r s2 ⟨rfl,rfl⟩
   refine jV (decide_eq_false ha) hK ?_;clear hK K
   refine jE ?_
   refine jB @AS.set_objs_same ?_
   refine awp_ret ?_
   refine aends_cell_tmp (o:=o) (off:=0) (by simp only [upd,Nc,↓reduceIte]) (AS.set_objs_same _ _ _) (by rw [T.c48]; decide) (by simp only [↓DN,Qa,Qb,Qc,Qd,Qe,Qf,Qg,Qh,reduceCtorEq,↓reduceIte,Na,Nb,Nc,Nk,Nf,Ng,Nh,Za,Zb,Zc,TT]; rfl) ?_
   exact ⟨_,s,AV.weak_tup2 noughtS_weak (AV.weak.refl _),AS.le_set (AS.le.refl s) ho _,rfl,rfl⟩
theorem refPubFirst_calls (g n : List UInt8) (k : Nat) (hg : g.length≤2 ^ 40) (hn : n.length≤2 ^ 40) (s : AS) :
  ACalls Tryz.prog Γ 37 [.v (.string ⟨g.toArray⟩),.v (.string ⟨n.toArray⟩),.v (.int .u64 k)] s (fun r s'=>r = .tup [.agg (firstT g n k).1.cells,.v (.int .i64 (firstT g n k).2)]∧s' = s):=by
 have h1:=fun s=>refNew20_calls (Γ:=Γ) n k (by omega) s
 have h4:=fun s=>refSum_calls (Γ:=Γ) (zeros32 ++ zeros32) (by decide +kernel) s
 unfold firstT
 have hT : treeV [leafN n k] = .sl 5 1 (rowC NodeV.cells [leafN n k]) .any:=rfl
 rw [hT] at h1
 have hcl : (⟨g,0,[leafN n k],zeros32,Sha.sum (zeros32 ++ zeros32)⟩ : StV).cells = [bytesV g .any,.v (.int .i64 0),.sl 5 1 (rowC NodeV.cells [leafN n k]) .any,.sl 1 32 (zeros32.map byteV) .any,bytesV (Sha.sum (zeros32 ++ zeros32)) .any]:=rfl
 have hzm:=zeros32_map
 have hzl:=zeros32_len
 have hroom:=i64_room (n:=zeros32.length + zeros32.length) (by decide +kernel)
 generalize Sha.sum (zeros32 ++ zeros32) = D at *
 generalize zeros32 = Z at *
 generalize rowC NodeV.cells [leafN n k] = X at *
 refine acalls_body Tryz.func37 rfl Tryz.ntmps37 Tryz.results37 (by simp) ?_
 unfold bytesV at *
 refine jQ fun K hK=>?_
 intro o ho
 refine hK _ _ ?_;clear hK K
 by_cases hr : (leafN n k).right
 ·rw [if_pos hr] at h1
  refine jK (h1 _) ?_;rintro s1 rfl
  rcases tt2 (decide ((g.length : Int) < 1)) (decide ((16 : Int) < (g.length : Int))) with hd | hd | hd
  case inr.inr =>
   have ha : 1≤g.length∧g.length≤16:=by
    simp only [decide_eq_false_iff_not] at hd
    omega
   rw [if_pos ⟨hr,ha⟩,hcl]
   refine wK fun K hK=>?_
   refine jB (Ai @hd (show ((0 : Int) != 0) = false from rfl)) ?_
   refine jF ?_
   refine awp_skip ?_
   refine hK _ _ ?_;clear hK K
   refine awp_reg_made rfl (by simp only [Option.some.injEq,forall_eq']; decide) (Z.map byteV) 32 (by rw [List.length_map]; exact hzl) rfl (by simp only [↓DN,Qa,Qb,Qc,Qd,Qe,Qf,Qg,Qh,reduceCtorEq,↓reduceIte,Na,Nb,Nc,Nk,Nf,Ng,Nh,Za,Zb,Zc,TT,hzm]; exact ⟨by decide,by decide,fun ob h=>⟨ob,h,rfl,rfl⟩⟩) ?_
   intro K hK
   refine jR hK ?_;clear hK K
   refine jS (Ai @hzm (Ai @hzl @hroom)) fun K hK=>?_
   refine acallk (h4 _) ?_
   rintro r s4 ⟨rfl,rfl⟩
   refine jV @AS.set_objs_same hK ?_;clear hK K
   refine awp_ret ?_
   refine aends_cell_tmp (o:=o) (off:=0) (by simp only [upd,Nc,↓reduceIte]) (AS.set_objs_same _ _ _) (by rw [T.c48]; decide) (by simp only [↓DN,Qa,Qb,Qc,Qd,Qe,Qf,Qg,Qh,reduceCtorEq,↓reduceIte,Na,Nb,Nc,Nk,Nf,Ng,Nh,Za,Zb,Zc,TT]; rfl) ?_
   exact ⟨_,s,AV.weak_tup2 (AV.weak_agg (.cons AV.weak_any (.cons (AV.weak.refl _) (.cons (AV.weak.refl _) (.cons AV.weak_any (.cons AV.weak_any .nil)))))) (AV.weak.refl _),AS.le_set (AS.le.refl s) ho _,rfl,rfl⟩
  all_goals
   have ha : ¬ (1≤g.length∧g.length≤16):=by
    simp only [decide_eq_true_eq,decide_eq_false_iff_not] at hd
    omega
   rw [if_neg (fun h=>ha h.2)]
   refine wK fun K hK=>?_
   refine jB (Ai @hd (show ((0 : Int) != 0) = false from rfl)) ?_
   refine jE ?_
   refine jB @AS.set_objs_same ?_
   refine awp_ret ?_
   refine aends_cell_tmp (o:=o) (off:=0) (by simp only [upd,Nc,↓reduceIte]) (AS.set_objs_same _ _ _) (by rw [T.c48]; decide) (by simp only [↓DN,Qa,Qb,Qc,Qd,Qe,Qf,Qg,Qh,reduceCtorEq,↓reduceIte,Na,Nb,Nc,Nk,Nf,Ng,Nh,Za,Zb,Zc,TT]; rfl) ?_
   exact ⟨_,s,AV.weak_tup2 noughtS_weak (AV.weak.refl _),AS.le_set (AS.le.refl s) ho _,rfl,rfl⟩
 ·rw [if_neg hr] at h1
  rw [if_neg (fun h=>hr h.1)]
  unfold nilS at h1
  refine jK (h1 _) ?_;rintro s1 rfl
  refine wK fun K hK=>?_
  refine jB (show ((2 : Int) != 0) = true from rfl) ?_
  refine jE ?_
  refine jB @AS.set_objs_same ?_
  refine awp_ret ?_
  refine aends_cell_tmp (o:=o) (off:=0) (by simp only [upd,Nc,↓reduceIte]) (AS.set_objs_same _ _ _) (by rw [T.c48]; decide) (by simp only [↓DN,Qa,Qb,Qc,Qd,Qe,Qf,Qg,Qh,reduceCtorEq,↓reduceIte,Na,Nb,Nc,Nk,Nf,Ng,Nh,Za,Zb,Zc,TT]; rfl) ?_
  exact ⟨_,s,AV.weak_tup2 noughtS_weak (AV.weak.refl _),AS.le_set (AS.le.refl s) ho _,rfl,rfl⟩
end Go.Proofs.YtfjlmkifiihgkaaGreatDoor
