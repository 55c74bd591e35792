/- Contracts of the program's functions, each walked once; the conditions stand in each theorem. -/
import Derived.Test.YtfbbckndpkmfcaaW2
import Derived.Test.YtfbbckndpkmfcaaAMp5
import Derived.Test.YtfbbckndpkmfcaaAMp6
import Derived.Test.YtfbbckndpkmfcaaW1
import Derived.Test.YtfbbckndpkmfcaaW6
set_option linter.unusedSimpArgs false
set_option linter.unusedVariables false
open Nat renaming reduceLT → Na, reduceLeDiff → Nb, reduceEqDiff → Nc, reduceAdd → Nk, reduceMul → Nf, reducePow → Ng, reduceSub → Nh, reduceBEq → Nz
open Int renaming reduceLT → Za, reduceLE → Zb, reduceToNat → Zc
open Go.AM renaming ashift → Qa, aconv → Qb, aindexAddr → Qc, aindex → Qd, aslice → Qe, abuiltin → Qf, awp_reg_seq → wS, awp_reg_end → wE, awp_seq_k → wK, awp_cond_k → wC
open Go.AM.AV renaming cells → Qg, one → Qh
set_option maxRecDepth 100000
set_option maxHeartbeats 8000000
set_option autoImplicit false
namespace Go.Proofs.Ytfbbckndpkmfcaa
open Go Go.AM Go.Proofs
variable {Γ : Nat→List AV}
theorem open_set (l : List UInt8) (s : AS) (hl : l.length≤2 ^ 45) : ACalls Try.prog Γ 47 [bytesV l .any] s (fun r s'=>∃ p,s.objs p = none∧r = .ptr p 0∧s' = s.set p (eyeC (l,0))):=EyeS.open (open_calls l s hl)
theorem eyeU8_set (s : AS) (p : Nat) (st : EyeSt) (h : s.objs p = some (eyeC st)) : ACalls Try.prog Γ 48 [.ptr p 0] s (fun r s'=>r = .v (.int .i64 (eyeNum 1 st).1)∧s' = s.set p (eyeC (eyeNum 1 st).2)):=EyeS.call (eyeU8_calls _ s p st (EyeS.at h))
theorem eyeU64_set (s : AS) (p : Nat) (st : EyeSt) (h : s.objs p = some (eyeC st)) : ACalls Try.prog Γ 50 [.ptr p 0] s (fun r s'=>r = .v (.int .u64 (eyeNum 8 st).1)∧s' = s.set p (eyeC (eyeNum 8 st).2)):=EyeS.call (eyeU64_calls _ s p st (EyeS.at h))
theorem eyeShort_set (s : AS) (p : Nat) (st : EyeSt) (most : Int) (hl : st.1.length≤2 ^ 45) (h : s.objs p = some (eyeC st)) : ACalls Try.prog Γ 49 [.ptr p 0,.v (.int .i64 most)] s (fun r s'=>r = bytesV (eyeText 1 most st).1 .any∧s' = s.set p (eyeC (eyeText 1 most st).2)):=EyeS.call (eyeShort_calls _ s p st most hl (EyeS.at h))
theorem eyeLong_set (s : AS) (p : Nat) (st : EyeSt) (most : Int) (hl : st.1.length≤2 ^ 45) (h : s.objs p = some (eyeC st)) : ACalls Try.prog Γ 51 [.ptr p 0,.v (.int .i64 most)] s (fun r s'=>r = bytesV (eyeText 2 most st).1 .any∧s' = s.set p (eyeC (eyeText 2 most st).2)):=EyeS.call (eyeLong_calls _ s p st most hl (EyeS.at h))
theorem eyeEnd_at (s : AS) (p : Nat) (st : EyeSt) (h : s.objs p = some (eyeC st)) : ACalls Try.prog Γ 52 [.ptr p 0] s (fun r s'=>r = .v (.int .i64 (eyeEnd st))∧s' = s):=eyeEnd_calls _ s p st (EyeS.at h)
theorem reyeNumber_set (s : AS) (p : Nat) (st : EyeSt) (size : Nat) (hs : size≤8) (hl : st.1.length < 2 ^ 61) (h : s.objs p = some (reyeC st)) : ACalls Try.prog Γ 53 [.ptr p 0,.v (.int .i64 size)] s (fun r s'=>r = .v (.int .u64 (eyeNum size st).1)∧s' = s.set p (reyeC (eyeNum size st).2)):=REyeS.call (reyeNumber_calls _ s p st size hs hl (REyeS.at h))
theorem reyeText_set (s : AS) (p : Nat) (st : EyeSt) (size : Nat) (most : Int) (hs : size≤7) (hl : st.1.length < 2 ^ 61) (h : s.objs p = some (reyeC st)) : ACalls Try.prog Γ 54 [.ptr p 0,.v (.int .i64 size),.v (.int .i64 most)] s (fun r s'=>r = .v (.string ⟨(eyeText size most st).1.toArray⟩)∧s' = s.set p (reyeC (eyeText size most st).2)):=REyeS.call (reyeText_calls _ s p st size most hs hl (REyeS.at h))
theorem reyeEnd_at (s : AS) (p : Nat) (st : EyeSt) (h : s.objs p = some (reyeC st)) : ACalls Try.prog Γ 55 [.ptr p 0] s (fun r s'=>r = .v (.int .i64 (eyeEnd st))∧s' = s):=reyeEnd_calls _ s p st (REyeS.at h)
end Go.Proofs.Ytfbbckndpkmfcaa
namespace Go.Proofs.Ytfbbckndpkmfcaa
open Go Go.AM Go.Proofs
variable {Γ : Nat→List AV}
theorem nought_weak : (AV.agg [.v (.int .i64 0),.v (.slice none 0 0),.v (.int .i64 0),.v (.int .i64 0),.v (.int .i64 0),.v (.slice none 0 0),.v (.slice none 0 0),.v (.slice none 0 0),.v (.slice none 0 0)]).weak (.agg Rec.nought.cells) :=
 AV.weak_agg (.cons (AV.weak.refl _) (.cons AV.weak_nil (.cons (AV.weak.refl _) (.cons (AV.weak.refl _) (.cons (AV.weak.refl _) (.cons AV.weak_nil (.cons AV.weak_nil (.cons AV.weak_nil (.cons AV.weak_nil .nil)))))))))
theorem rec_weak {k e t u : Int} {g y tr sc wr : List UInt8} {s1 s2 s3 s4 s5 : Sp} : (AV.agg [.v (.int .i64 k),.sl 1 g.length (g.map byteV) s1,.v (.int .i64 e),.v (.int .i64 t),.v (.int .i64 u),.sl 1 y.length (y.map byteV) s2,.sl 1 tr.length (tr.map byteV) s3,.sl 1 sc.length (sc.map byteV) s4,.sl 1 wr.length (wr.map byteV) s5]).weak (.agg (Rec.cells ⟨k,g,e,t,u,y,tr,sc,wr⟩)) :=
 AV.weak_agg (.cons (AV.weak.refl _) (.cons AV.weak_any (.cons (AV.weak.refl _) (.cons (AV.weak.refl _) (.cons (AV.weak.refl _) (.cons AV.weak_any (.cons AV.weak_any (.cons AV.weak_any (.cons AV.weak_any .nil)))))))))
theorem recRead_calls (b : List UInt8) (hb : b.length≤2 ^ 44) (s : AS) : ACalls Try.prog Γ 36 [bytesV b .any] s (fun r s'=>r = .tup [.agg (recRead b).1.cells,.v (.int .i64 (recRead b).2)]∧s' = s):=by
 refine acalls_body Try.func36 rfl Try.ntmps36 Try.results36 (by simp) ?_
 obtain ⟨q1,e1⟩ : ∃ q,q = eyeNum 1 (b,0):=⟨_,rfl⟩
 obtain ⟨q2,e2⟩ : ∃ q,q = eyeText 1 16 q1.2:=⟨_,rfl⟩
 obtain ⟨q3,e3⟩ : ∃ q,q = eyeNum 8 q2.2:=⟨_,rfl⟩
 obtain ⟨q4,e4⟩ : ∃ q,q = eyeNum 8 q3.2:=⟨_,rfl⟩
 obtain ⟨q5,e5⟩ : ∃ q,q = eyeNum 8 q4.2:=⟨_,rfl⟩
 obtain ⟨q6,e6⟩ : ∃ q,q = eyeText 2 60000 q5.2:=⟨_,rfl⟩
 obtain ⟨q7,e7⟩ : ∃ q,q = eyeText 1 32 q6.2:=⟨_,rfl⟩
 obtain ⟨q8,e8⟩ : ∃ q,q = eyeText 1 32 q7.2:=⟨_,rfl⟩
 obtain ⟨q9,e9⟩ : ∃ q,q = eyeText 1 48 q8.2:=⟨_,rfl⟩
 have l1 : q1.2.1.length≤2 ^ 44:=by rw [e1]; exact Nat.le_trans (eyeNum_len _ _) hb
 have l2 : q2.2.1.length≤2 ^ 44:=by rw [e2]; exact Nat.le_trans (eyeText_len _ _ _).2 l1
 have l3 : q3.2.1.length≤2 ^ 44:=by rw [e3]; exact Nat.le_trans (eyeNum_len _ _) l2
 have l4 : q4.2.1.length≤2 ^ 44:=by rw [e4]; exact Nat.le_trans (eyeNum_len _ _) l3
 have l5 : q5.2.1.length≤2 ^ 44:=by rw [e5]; exact Nat.le_trans (eyeNum_len _ _) l4
 have l6 : q6.2.1.length≤2 ^ 44:=by rw [e6]; exact Nat.le_trans (eyeText_len _ _ _).2 l5
 have l7 : q7.2.1.length≤2 ^ 44:=by rw [e7]; exact Nat.le_trans (eyeText_len _ _ _).2 l6
 have l8 : q8.2.1.length≤2 ^ 44:=by rw [e8]; exact Nat.le_trans (eyeText_len _ _ _).2 l7
 have l9 : q9.2.1.length≤2 ^ 44:=by rw [e9]; exact Nat.le_trans (eyeText_len _ _ _).2 l8
 have hrr : readRec b = (⟨q1.1,q2.1,iconv .i64 (q3.1 : Int),iconv .i64 (q4.1 : Int),iconv .i64 (q5.1 : Int),q6.1,q7.1,q8.1,q9.1⟩,q9.2):=by subst e9 e8 e7 e6 e5 e4 e3 e2 e1; rfl
 refine wS fun K hK=>?_
 simp only [↓DN,Qa,Qb,Qc,Qd,Qe,Qf,Qg,Qh,reduceCtorEq,↓reduceIte,Na,Nb,Nc,Nk,Nf,Ng,Nh,Za,Zb,Zc,TT]
 intro o2 ho2
 refine hK _ _ ?_;clear hK K
 refine wS fun K hK=>?_
 simp only [↓DN,Qa,Qb,Qc,Qd,Qe,Qf,Qg,Qh,reduceCtorEq,↓reduceIte,Na,Nb,Nc,Nk,Nf,Ng,Nh,Za,Zb,Zc,TT]
 refine acallk (open_set b _ (by omega)) ?_
 rintro r s1 ⟨p,hp,rfl,rfl⟩
 obtain ⟨hp2,hp0⟩:=AS.fresh_set hp
 simp only [↓DM,pval,DX,Nz,↓DN,Qa,Qb,Qc,Qd,Qe,Qf,Qg,Qh,reduceCtorEq,↓reduceIte,Na,Nb,Nc,Nk,Nf,Ng,Nh,Za,Zb,Zc,TT]
 refine hK _ _ ?_;clear hK K
 refine wS fun K hK=>?_
 simp only [↓DN,Qa,Qb,Qc,Qd,Qe,Qf,Qg,Qh,reduceCtorEq,↓reduceIte,Na,Nb,Nc,Nk,Nf,Ng,Nh,Za,Zb,Zc,TT]
 refine acallk (eyeU8_set _ p (b,0) (AS.set_objs_same _ _ _)) ?_
 rintro r s' ⟨rfl,rfl⟩
 rw [← e1]
 simp only [↓DM,pval,DX,Nz,↓DN,Qa,Qb,Qc,Qd,Qe,Qf,Qg,Qh,reduceCtorEq,↓reduceIte,Na,Nb,Nc,Nk,Nf,Ng,Nh,Za,Zb,Zc,TT]
 refine acallk (eyeShort_set _ p q1.2 16 (by have:=l1; omega) (AS.set_objs_same _ _ _)) ?_
 rintro r s' ⟨rfl,rfl⟩
 rw [← e2]
 simp only [↓DM,pval,DX,Nz,↓DN,Qa,Qb,Qc,Qd,Qe,Qf,Qg,Qh,reduceCtorEq,↓reduceIte,Na,Nb,Nc,Nk,Nf,Ng,Nh,Za,Zb,Zc,TT]
 refine acallk (eyeU64_set _ p q2.2 (AS.set_objs_same _ _ _)) ?_
 rintro r s' ⟨rfl,rfl⟩
 rw [← e3]
 simp only [↓DM,pval,DX,Nz,↓DN,Qa,Qb,Qc,Qd,Qe,Qf,Qg,Qh,reduceCtorEq,↓reduceIte,Na,Nb,Nc,Nk,Nf,Ng,Nh,Za,Zb,Zc,TT]
 refine acallk (eyeU64_set _ p q3.2 (AS.set_objs_same _ _ _)) ?_
 rintro r s' ⟨rfl,rfl⟩
 rw [← e4]
 simp only [↓DM,pval,DX,Nz,↓DN,Qa,Qb,Qc,Qd,Qe,Qf,Qg,Qh,reduceCtorEq,↓reduceIte,Na,Nb,Nc,Nk,Nf,Ng,Nh,Za,Zb,Zc,TT]
 refine acallk (eyeU64_set _ p q4.2 (AS.set_objs_same _ _ _)) ?_
 rintro r s' ⟨rfl,rfl⟩
 rw [← e5]
 simp only [↓DM,pval,DX,Nz,↓DN,Qa,Qb,Qc,Qd,Qe,Qf,Qg,Qh,reduceCtorEq,↓reduceIte,Na,Nb,Nc,Nk,Nf,Ng,Nh,Za,Zb,Zc,TT]
 intro o5 ho5
 have h5p : o5≠p:=by
  rintro rfl
  simp at ho5
 have h52 : o5≠o2:=by
  rintro rfl
  simp [hp2.symm] at ho5
 have h50 : s.objs o5 = none:=by simpa [h5p,h52] using ho5
 have hp5:=h5p.symm
 have h25:=h52.symm
 have h2p:=hp2.symm
 refine hK _ _ ?_;clear hK K
 refine wS fun K hK=>?_
 simp only [↓DN,Qa,Qb,Qc,Qd,Qe,Qf,Qg,Qh,reduceCtorEq,↓reduceIte,Na,Nb,Nc,Nk,Nf,Ng,Nh,Za,Zb,Zc,TT]
 refine acallk (eyeLong_set _ p q5.2 60000 (by have:=l5; omega) (by rw [AS.set_objs_ne _ hp5,AS.set_objs_same])) ?_
 rintro r s' ⟨rfl,rfl⟩
 rw [← e6]
 rw [AS.set_mid _ hp5]
 simp only [↓DM,pval,DX,Nz,↓DN,Qa,Qb,Qc,Qd,Qe,Qf,Qg,Qh,reduceCtorEq,↓reduceIte,Na,Nb,Nc,Nk,Nf,Ng,Nh,Za,Zb,Zc,TT,h5p,hp5]
 refine hK _ _ ?_;clear hK K
 refine wS fun K hK=>?_
 simp only [↓DN,Qa,Qb,Qc,Qd,Qe,Qf,Qg,Qh,reduceCtorEq,↓reduceIte,Na,Nb,Nc,Nk,Nf,Ng,Nh,Za,Zb,Zc,TT]
 refine acallk (eyeShort_set _ p q6.2 32 (by have:=l6; omega) (by rw [AS.set_objs_ne _ hp5,AS.set_objs_same])) ?_
 rintro r s' ⟨rfl,rfl⟩
 rw [← e7]
 rw [AS.set_mid _ hp5]
 simp only [↓DM,pval,DX,Nz,↓DN,Qa,Qb,Qc,Qd,Qe,Qf,Qg,Qh,reduceCtorEq,↓reduceIte,Na,Nb,Nc,Nk,Nf,Ng,Nh,Za,Zb,Zc,TT,h5p,hp5]
 refine acallk (eyeShort_set _ p q7.2 32 (by have:=l7; omega) (by rw [AS.set_objs_ne _ hp5,AS.set_objs_same])) ?_
 rintro r s' ⟨rfl,rfl⟩
 rw [← e8]
 rw [AS.set_mid _ hp5]
 simp only [↓DM,pval,DX,Nz,↓DN,Qa,Qb,Qc,Qd,Qe,Qf,Qg,Qh,reduceCtorEq,↓reduceIte,Na,Nb,Nc,Nk,Nf,Ng,Nh,Za,Zb,Zc,TT,h5p,hp5]
 refine hK _ _ ?_;clear hK K
 refine wS fun K hK=>?_
 simp only [↓DN,Qa,Qb,Qc,Qd,Qe,Qf,Qg,Qh,reduceCtorEq,↓reduceIte,Na,Nb,Nc,Nk,Nf,Ng,Nh,Za,Zb,Zc,TT]
 refine acallk (eyeShort_set _ p q8.2 48 (by have:=l8; omega) (by rw [AS.set_objs_ne _ hp5,AS.set_objs_same])) ?_
 rintro r s' ⟨rfl,rfl⟩
 rw [← e9]
 rw [AS.set_mid _ hp5]
 simp only [↓DM,pval,DX,Nz,↓DN,Qa,Qb,Qc,Qd,Qe,Qf,Qg,Qh,reduceCtorEq,↓reduceIte,Na,Nb,Nc,Nk,Nf,Ng,Nh,Za,Zb,Zc,TT,h5p,hp5]
 refine hK _ _ ?_;clear hK K
 refine wK fun K hK=>?_
 refine wS fun K hK=>?_
 simp only [↓DN,Qa,Qb,Qc,Qd,Qe,Qf,Qg,Qh,reduceCtorEq,↓reduceIte,Na,Nb,Nc,Nk,Nf,Ng,Nh,Za,Zb,Zc,TT]
 refine acallk (eyeEnd_at _ p q9.2 (by rw [AS.set_objs_ne _ hp5,AS.set_objs_same])) ?_
 rintro r s' ⟨rfl,rfl⟩
 simp only [↓DM,pval,DX,Nz,↓DN,Qa,Qb,Qc,Qd,Qe,Qf,Qg,Qh,reduceCtorEq,↓reduceIte,Na,Nb,Nc,Nk,Nf,Ng,Nh,Za,Zb,Zc,TT]
 refine hK _ _ ?_;clear hK K
 by_cases he : eyeEnd q9.2 = 0
 ·rw [he]
  refine wS fun K hK=>?_
  simp only [↓DN,Qa,Qb,Qc,Qd,Qe,Qf,Qg,Qh,reduceCtorEq,↓reduceIte,Na,Nb,Nc,Nk,Nf,Ng,Nh,Za,Zb,Zc,TT,i64_ne_false 0 rfl]
  refine hK _ _ ?_;clear hK K
  refine wC fun X Y hX hY=>?_
  simp only [UP,DF,Nc,↓reduceIte,DB]
  refine hY ?_;clear hX hY X Y
  refine awp_skip ?_
  refine hK _ _ ?_;clear hK K
  refine wK fun K hK=>?_
  refine wS fun K hK=>?_
  simp only [↓DN,Qa,Qb,Qc,Qd,Qe,Qf,Qg,Qh,reduceCtorEq,↓reduceIte,Na,Nb,Nc,Nk,Nf,Ng,Nh,Za,Zb,Zc,TT,h5p,hp5]
  refine acallk (recRight_calls ⟨q1.1,q2.1,iconv .i64 (q3.1 : Int),iconv .i64 (q4.1 : Int),iconv .i64 (q5.1 : Int),q6.1,q7.1,q8.1,q9.1⟩ _) ?_
  rintro r s' ⟨rfl,rfl⟩
  by_cases hr : Rec.right ⟨q1.1,q2.1,iconv .i64 (q3.1 : Int),iconv .i64 (q4.1 : Int),iconv .i64 (q5.1 : Int),q6.1,q7.1,q8.1,q9.1⟩
  ·rw [decide_eq_true hr]
   simp only [↓DM,pval,DX,Nz,↓DN,Qa,Qb,Qc,Qd,Qe,Qf,Qg,Qh,reduceCtorEq,↓reduceIte,Na,Nb,Nc,Nk,Nf,Ng,Nh,Za,Zb,Zc,TT]
   refine hK _ _ ?_;clear hK K
   refine wC fun X Y hX hY=>?_
   simp only [UP,DF,Nc,↓reduceIte,DB]
   refine hY ?_;clear hX hY X Y
   refine awp_skip ?_
   refine hK _ _ ?_;clear hK K
   refine wS fun K hK=>?_
   simp only [↓DN,Qa,Qb,Qc,Qd,Qe,Qf,Qg,Qh,reduceCtorEq,↓reduceIte,Na,Nb,Nc,Nk,Nf,Ng,Nh,Za,Zb,Zc,TT,h5p,hp5,h52,h25,hp2,h2p]
   refine hK _ _ ?_;clear hK K
   refine awp_ret ?_
   refine aends_cell_tmp (o:=o2) (off:=0) (by simp only [upd,Nc,↓reduceIte]) (AS.set_objs_same _ _ _) (by rw [T.c34]; decide) (by simp only [↓DN,Qa,Qb,Qc,Qd,Qe,Qf,Qg,Qh,reduceCtorEq,↓reduceIte,Na,Nb,Nc,Nk,Nf,Ng,Nh,Za,Zb,Zc,TT]; rfl) ?_
   rw [show recRead b = (⟨q1.1,q2.1,iconv .i64 (q3.1 : Int),iconv .i64 (q4.1 : Int),iconv .i64 (q5.1 : Int),q6.1,q7.1,q8.1,q9.1⟩,0) from by unfold recRead; rw [hrr]; exact (if_pos he).trans (if_pos hr)]
   exact ⟨_,s,AV.weak.refl _,AS.le_set (AS.le_set (AS.le_set (AS.le_set (AS.le.refl s) ho2 _) hp0 _) h50 _) ho2 _,rfl,rfl⟩
  ·rw [decide_eq_false hr]
   simp only [↓DM,pval,DX,Nz,↓DN,Qa,Qb,Qc,Qd,Qe,Qf,Qg,Qh,reduceCtorEq,↓reduceIte,Na,Nb,Nc,Nk,Nf,Ng,Nh,Za,Zb,Zc,TT]
   refine hK _ _ ?_;clear hK K
   refine wC fun X Y hX hY=>?_
   simp only [UP,DF,Nc,↓reduceIte,DB]
   refine hX ?_;clear hX hY X Y
   refine wS fun K hK=>?_
   simp only [↓DN,Qa,Qb,Qc,Qd,Qe,Qf,Qg,Qh,reduceCtorEq,↓reduceIte,Na,Nb,Nc,Nk,Nf,Ng,Nh,Za,Zb,Zc,TT,h5p,hp5,h52,h25,hp2,h2p]
   refine hK _ _ ?_;clear hK K
   refine awp_ret ?_
   refine aends_cell_tmp (o:=o2) (off:=0) (by simp only [upd,Nc,↓reduceIte]) (AS.set_objs_same _ _ _) (by rw [T.c34]; decide) (by simp only [↓DN,Qa,Qb,Qc,Qd,Qe,Qf,Qg,Qh,reduceCtorEq,↓reduceIte,Na,Nb,Nc,Nk,Nf,Ng,Nh,Za,Zb,Zc,TT]; rfl) ?_
   rw [show recRead b = (Rec.nought,12) from by unfold recRead; rw [hrr]; exact (if_pos he).trans (if_neg hr)]
   exact ⟨_,s,AV.weak_tup2 nought_weak (AV.weak.refl _),AS.le_set (AS.le_set (AS.le_set (AS.le_set (AS.le.refl s) ho2 _) hp0 _) h50 _) ho2 _,rfl,rfl⟩
 ·refine wS fun K hK=>?_
  simp only [↓DN,Qa,Qb,Qc,Qd,Qe,Qf,Qg,Qh,reduceCtorEq,↓reduceIte,Na,Nb,Nc,Nk,Nf,Ng,Nh,Za,Zb,Zc,TT,i64_ne_true _ he]
  refine hK _ _ ?_;clear hK K
  refine wC fun X Y hX hY=>?_
  simp only [UP,DF,Nc,↓reduceIte,DB]
  refine hX ?_;clear hX hY X Y
  refine wS fun K hK=>?_
  simp only [↓DN,Qa,Qb,Qc,Qd,Qe,Qf,Qg,Qh,reduceCtorEq,↓reduceIte,Na,Nb,Nc,Nk,Nf,Ng,Nh,Za,Zb,Zc,TT,h5p,hp5,h52,h25,hp2,h2p]
  refine hK _ _ ?_;clear hK K
  refine awp_ret ?_
  refine aends_cell_tmp (o:=o2) (off:=0) (by simp only [upd,Nc,↓reduceIte]) (AS.set_objs_same _ _ _) (by rw [T.c34]; decide) (by simp only [↓DN,Qa,Qb,Qc,Qd,Qe,Qf,Qg,Qh,reduceCtorEq,↓reduceIte,Na,Nb,Nc,Nk,Nf,Ng,Nh,Za,Zb,Zc,TT]; rfl) ?_
  rw [show recRead b = (Rec.nought,eyeEnd q9.2) from by unfold recRead; rw [hrr]; exact if_neg he]
  exact ⟨_,s,AV.weak_tup2 nought_weak (AV.weak.refl _),AS.le_set (AS.le_set (AS.le_set (AS.le_set (AS.le.refl s) ho2 _) hp0 _) h50 _) ho2 _,rfl,rfl⟩
end Go.Proofs.Ytfbbckndpkmfcaa
namespace Go.Proofs.Ytfbbckndpkmfcaa
open Go Go.AM Go.Proofs
variable {Γ : Nat→List AV}
theorem refRecRead_calls (b : List UInt8) (hb : b.length≤2 ^ 44) (s : AS) : ACalls Try.prog Γ 37 [.v (.string ⟨b.toArray⟩)] s (fun r s'=>r = .tup [.agg (recRead b).1.cells,.v (.int .i64 (recRead b).2)]∧s' = s):=by
 refine acalls_body Try.func37 rfl Try.ntmps37 Try.results37 (by simp) ?_
 obtain ⟨q1,e1⟩ : ∃ q,q = eyeNum 1 (b,0):=⟨_,rfl⟩
 obtain ⟨q2,e2⟩ : ∃ q,q = eyeText 1 16 q1.2:=⟨_,rfl⟩
 obtain ⟨q3,e3⟩ : ∃ q,q = eyeNum 8 q2.2:=⟨_,rfl⟩
 obtain ⟨q4,e4⟩ : ∃ q,q = eyeNum 8 q3.2:=⟨_,rfl⟩
 obtain ⟨q5,e5⟩ : ∃ q,q = eyeNum 8 q4.2:=⟨_,rfl⟩
 obtain ⟨q6,e6⟩ : ∃ q,q = eyeText 2 60000 q5.2:=⟨_,rfl⟩
 obtain ⟨q7,e7⟩ : ∃ q,q = eyeText 1 32 q6.2:=⟨_,rfl⟩
 obtain ⟨q8,e8⟩ : ∃ q,q = eyeText 1 32 q7.2:=⟨_,rfl⟩
 obtain ⟨q9,e9⟩ : ∃ q,q = eyeText 1 48 q8.2:=⟨_,rfl⟩
 have l1 : q1.2.1.length≤2 ^ 44:=by rw [e1]; exact Nat.le_trans (eyeNum_len _ _) hb
 have l2 : q2.2.1.length≤2 ^ 44:=by rw [e2]; exact Nat.le_trans (eyeText_len _ _ _).2 l1
 have l3 : q3.2.1.length≤2 ^ 44:=by rw [e3]; exact Nat.le_trans (eyeNum_len _ _) l2
 have l4 : q4.2.1.length≤2 ^ 44:=by rw [e4]; exact Nat.le_trans (eyeNum_len _ _) l3
 have l5 : q5.2.1.length≤2 ^ 44:=by rw [e5]; exact Nat.le_trans (eyeNum_len _ _) l4
 have l6 : q6.2.1.length≤2 ^ 44:=by rw [e6]; exact Nat.le_trans (eyeText_len _ _ _).2 l5
 have l7 : q7.2.1.length≤2 ^ 44:=by rw [e7]; exact Nat.le_trans (eyeText_len _ _ _).2 l6
 have l8 : q8.2.1.length≤2 ^ 44:=by rw [e8]; exact Nat.le_trans (eyeText_len _ _ _).2 l7
 have l9 : q9.2.1.length≤2 ^ 44:=by rw [e9]; exact Nat.le_trans (eyeText_len _ _ _).2 l8
 have k1 : q1.1 < 256:=by rw [e1]; exact Nat.lt_of_lt_of_le (eyeNum_lt 1 _) (by decide)
 have hrr : readRec b = (⟨q1.1,q2.1,iconv .i64 (q3.1 : Int),iconv .i64 (q4.1 : Int),iconv .i64 (q5.1 : Int),q6.1,q7.1,q8.1,q9.1⟩,q9.2):=by subst e9 e8 e7 e6 e5 e4 e3 e2 e1; rfl
 refine wS fun K hK=>?_
 simp only [↓DN,Qa,Qb,Qc,Qd,Qe,Qf,Qg,Qh,reduceCtorEq,↓reduceIte,Na,Nb,Nc,Nk,Nf,Ng,Nh,Za,Zb,Zc,TT]
 intro o2 ho2
 refine hK _ _ ?_;clear hK K
 refine wS fun K hK=>?_
 simp only [↓DN,Qa,Qb,Qc,Qd,Qe,Qf,Qg,Qh,reduceCtorEq,↓reduceIte,Na,Nb,Nc,Nk,Nf,Ng,Nh,Za,Zb,Zc,TT]
 intro p hp
 have hp2 : p≠o2:=by
  rintro rfl
  simp at hp
 have hp0 : s.objs p = none:=by simpa [hp2] using hp
 refine hK _ _ ?_;clear hK K
 refine wS fun K hK=>?_
 simp only [↓DN,Qa,Qb,Qc,Qd,Qe,Qf,Qg,Qh,reduceCtorEq,↓reduceIte,Na,Nb,Nc,Nk,Nf,Ng,Nh,Za,Zb,Zc,TT]
 intro o5 ho5
 have h5p : o5≠p:=by
  rintro rfl
  simp at ho5
 have h52 : o5≠o2:=by
  rintro rfl
  simp [hp2.symm] at ho5
 have h50 : s.objs o5 = none:=by simpa [h5p,h52] using ho5
 have hp5:=h5p.symm
 have h25:=h52.symm
 have h2p:=hp2.symm
 refine hK _ _ ?_;clear hK K
 refine wS fun K hK=>?_
 simp only [↓DN,Qa,Qb,Qc,Qd,Qe,Qf,Qg,Qh,reduceCtorEq,↓reduceIte,Na,Nb,Nc,Nk,Nf,Ng,Nh,Za,Zb,Zc,TT]
 refine acallk (reyeNumber_set _ p (b,0) 1 (by omega) (by simp only; omega) (by rw [AS.set_objs_ne _ hp5,AS.set_objs_same])) ?_
 rintro r s' ⟨rfl,rfl⟩
 rw [← e1,AS.set_mid _ hp5]
 simp only [↓DM,pval,DX,Nz,↓DN,Qa,Qb,Qc,Qd,Qe,Qf,Qg,Qh,reduceCtorEq,↓reduceIte,Na,Nb,Nc,Nk,Nf,Ng,Nh,Za,Zb,Zc,TT,h5p,hp5,i64_conv (show q1.1 < 2 ^ 62 by omega)]
 refine hK _ _ ?_;clear hK K
 refine wS fun K hK=>?_
 simp only [↓DN,Qa,Qb,Qc,Qd,Qe,Qf,Qg,Qh,reduceCtorEq,↓reduceIte,Na,Nb,Nc,Nk,Nf,Ng,Nh,Za,Zb,Zc,TT]
 refine acallk (reyeText_set _ p q1.2 1 16 (by omega) (by have:=l1; omega) (by rw [AS.set_objs_ne _ hp5,AS.set_objs_same])) ?_
 rintro r s' ⟨rfl,rfl⟩
 rw [← e2,AS.set_mid _ hp5]
 simp only [↓DM,pval,DX,Nz,↓DN,Qa,Qb,Qc,Qd,Qe,Qf,Qg,Qh,reduceCtorEq,↓reduceIte,Na,Nb,Nc,Nk,Nf,Ng,Nh,Za,Zb,Zc,TT,h5p,hp5]
 refine hK _ _ ?_;clear hK K
 refine wS fun K hK=>?_
 simp only [↓DN,Qa,Qb,Qc,Qd,Qe,Qf,Qg,Qh,reduceCtorEq,↓reduceIte,Na,Nb,Nc,Nk,Nf,Ng,Nh,Za,Zb,Zc,TT]
 refine acallk (reyeNumber_set _ p q2.2 8 (by omega) (by have:=l2; omega) (by rw [AS.set_objs_ne _ hp5,AS.set_objs_same])) ?_
 rintro r s' ⟨rfl,rfl⟩
 rw [← e3,AS.set_mid _ hp5]
 simp only [↓DM,pval,DX,Nz,↓DN,Qa,Qb,Qc,Qd,Qe,Qf,Qg,Qh,reduceCtorEq,↓reduceIte,Na,Nb,Nc,Nk,Nf,Ng,Nh,Za,Zb,Zc,TT,h5p,hp5]
 refine hK _ _ ?_;clear hK K
 refine wS fun K hK=>?_
 simp only [↓DN,Qa,Qb,Qc,Qd,Qe,Qf,Qg,Qh,reduceCtorEq,↓reduceIte,Na,Nb,Nc,Nk,Nf,Ng,Nh,Za,Zb,Zc,TT]
 refine acallk (reyeNumber_set _ p q3.2 8 (by omega) (by have:=l3; omega) (by rw [AS.set_objs_ne _ hp5,AS.set_objs_same])) ?_
 rintro r s' ⟨rfl,rfl⟩
 rw [← e4,AS.set_mid _ hp5]
 simp only [↓DM,pval,DX,Nz,↓DN,Qa,Qb,Qc,Qd,Qe,Qf,Qg,Qh,reduceCtorEq,↓reduceIte,Na,Nb,Nc,Nk,Nf,Ng,Nh,Za,Zb,Zc,TT,h5p,hp5]
 refine hK _ _ ?_;clear hK K
 refine wS fun K hK=>?_
 simp only [↓DN,Qa,Qb,Qc,Qd,Qe,Qf,Qg,Qh,reduceCtorEq,↓reduceIte,Na,Nb,Nc,Nk,Nf,Ng,Nh,Za,Zb,Zc,TT]
 refine acallk (reyeNumber_set _ p q4.2 8 (by omega) (by have:=l4; omega) (by rw [AS.set_objs_ne _ hp5,AS.set_objs_same])) ?_
 rintro r s' ⟨rfl,rfl⟩
 rw [← e5,AS.set_mid _ hp5]
 simp only [↓DM,pval,DX,Nz,↓DN,Qa,Qb,Qc,Qd,Qe,Qf,Qg,Qh,reduceCtorEq,↓reduceIte,Na,Nb,Nc,Nk,Nf,Ng,Nh,Za,Zb,Zc,TT,h5p,hp5]
 refine hK _ _ ?_;clear hK K
 refine wS fun K hK=>?_
 simp only [↓DN,Qa,Qb,Qc,Qd,Qe,Qf,Qg,Qh,reduceCtorEq,↓reduceIte,Na,Nb,Nc,Nk,Nf,Ng,Nh,Za,Zb,Zc,TT]
 refine acallk (reyeText_set _ p q5.2 2 60000 (by omega) (by have:=l5; omega) (by rw [AS.set_objs_ne _ hp5,AS.set_objs_same])) ?_
 rintro r s' ⟨rfl,rfl⟩
 rw [← e6,AS.set_mid _ hp5]
 simp only [↓DM,pval,DX,Nz,↓DN,Qa,Qb,Qc,Qd,Qe,Qf,Qg,Qh,reduceCtorEq,↓reduceIte,Na,Nb,Nc,Nk,Nf,Ng,Nh,Za,Zb,Zc,TT,h5p,hp5]
 refine hK _ _ ?_;clear hK K
 refine wS fun K hK=>?_
 simp only [↓DN,Qa,Qb,Qc,Qd,Qe,Qf,Qg,Qh,reduceCtorEq,↓reduceIte,Na,Nb,Nc,Nk,Nf,Ng,Nh,Za,Zb,Zc,TT]
 refine acallk (reyeText_set _ p q6.2 1 32 (by omega) (by have:=l6; omega) (by rw [AS.set_objs_ne _ hp5,AS.set_objs_same])) ?_
 rintro r s' ⟨rfl,rfl⟩
 rw [← e7,AS.set_mid _ hp5]
 simp only [↓DM,pval,DX,Nz,↓DN,Qa,Qb,Qc,Qd,Qe,Qf,Qg,Qh,reduceCtorEq,↓reduceIte,Na,Nb,Nc,Nk,Nf,Ng,Nh,Za,Zb,Zc,TT,h5p,hp5]
 refine hK _ _ ?_;clear hK K
 refine wS fun K hK=>?_
 simp only [↓DN,Qa,Qb,Qc,Qd,Qe,Qf,Qg,Qh,reduceCtorEq,↓reduceIte,Na,Nb,Nc,Nk,Nf,Ng,Nh,Za,Zb,Zc,TT]
 refine acallk (reyeText_set _ p q7.2 1 32 (by omega) (by have:=l7; omega) (by rw [AS.set_objs_ne _ hp5,AS.set_objs_same])) ?_
 rintro r s' ⟨rfl,rfl⟩
 rw [← e8,AS.set_mid _ hp5]
 simp only [↓DM,pval,DX,Nz,↓DN,Qa,Qb,Qc,Qd,Qe,Qf,Qg,Qh,reduceCtorEq,↓reduceIte,Na,Nb,Nc,Nk,Nf,Ng,Nh,Za,Zb,Zc,TT,h5p,hp5]
 refine hK _ _ ?_;clear hK K
 refine wS fun K hK=>?_
 simp only [↓DN,Qa,Qb,Qc,Qd,Qe,Qf,Qg,Qh,reduceCtorEq,↓reduceIte,Na,Nb,Nc,Nk,Nf,Ng,Nh,Za,Zb,Zc,TT]
 refine acallk (reyeText_set _ p q8.2 1 48 (by omega) (by have:=l8; omega) (by rw [AS.set_objs_ne _ hp5,AS.set_objs_same])) ?_
 rintro r s' ⟨rfl,rfl⟩
 rw [← e9,AS.set_mid _ hp5]
 simp only [↓DM,pval,DX,Nz,↓DN,Qa,Qb,Qc,Qd,Qe,Qf,Qg,Qh,reduceCtorEq,↓reduceIte,Na,Nb,Nc,Nk,Nf,Ng,Nh,Za,Zb,Zc,TT,h5p,hp5]
 refine hK _ _ ?_;clear hK K
 refine wK fun K hK=>?_
 refine wS fun K hK=>?_
 simp only [↓DN,Qa,Qb,Qc,Qd,Qe,Qf,Qg,Qh,reduceCtorEq,↓reduceIte,Na,Nb,Nc,Nk,Nf,Ng,Nh,Za,Zb,Zc,TT]
 refine acallk (reyeEnd_at _ p q9.2 (by rw [AS.set_objs_ne _ hp5,AS.set_objs_same])) ?_
 rintro r s' ⟨rfl,rfl⟩
 by_cases he : eyeEnd q9.2 = 0
 ·rw [he]
  simp only [↓DM,pval,DX,Nz,↓DN,Qa,Qb,Qc,Qd,Qe,Qf,Qg,Qh,reduceCtorEq,↓reduceIte,Na,Nb,Nc,Nk,Nf,Ng,Nh,Za,Zb,Zc,TT,i64_ne_false 0 rfl]
  refine hK _ _ ?_;clear hK K
  refine wC fun X Y hX hY=>?_
  simp only [UP,DF,Nc,↓reduceIte,DB]
  refine hY ?_;clear hX hY X Y
  refine awp_skip ?_
  refine hK _ _ ?_;clear hK K
  refine wK fun K hK=>?_
  refine wS fun K hK=>?_
  simp only [↓DN,Qa,Qb,Qc,Qd,Qe,Qf,Qg,Qh,reduceCtorEq,↓reduceIte,Na,Nb,Nc,Nk,Nf,Ng,Nh,Za,Zb,Zc,TT,h5p,hp5]
  refine acallk (ACalls.weaks (.cons rec_weak .nil) (refRight12_calls ⟨q1.1,q2.1,iconv .i64 (q3.1 : Int),iconv .i64 (q4.1 : Int),iconv .i64 (q5.1 : Int),q6.1,q7.1,q8.1,q9.1⟩ _)) ?_
  rintro r s' ⟨rfl,rfl⟩
  by_cases hr : Rec.right ⟨q1.1,q2.1,iconv .i64 (q3.1 : Int),iconv .i64 (q4.1 : Int),iconv .i64 (q5.1 : Int),q6.1,q7.1,q8.1,q9.1⟩
  ·rw [decide_eq_true hr]
   simp only [↓DM,pval,DX,Nz,↓DN,Qa,Qb,Qc,Qd,Qe,Qf,Qg,Qh,reduceCtorEq,↓reduceIte,Na,Nb,Nc,Nk,Nf,Ng,Nh,Za,Zb,Zc,TT]
   refine hK _ _ ?_;clear hK K
   refine wC fun X Y hX hY=>?_
   simp only [UP,DF,Nc,↓reduceIte,DB]
   refine hY ?_;clear hX hY X Y
   refine awp_skip ?_
   refine hK _ _ ?_;clear hK K
   refine wS fun K hK=>?_
   simp only [↓DN,Qa,Qb,Qc,Qd,Qe,Qf,Qg,Qh,reduceCtorEq,↓reduceIte,Na,Nb,Nc,Nk,Nf,Ng,Nh,Za,Zb,Zc,TT,h5p,hp5,h52,h25,hp2,h2p]
   refine hK _ _ ?_;clear hK K
   refine awp_ret ?_
   refine aends_cell_tmp (o:=o2) (off:=0) (by simp only [upd,Nc,↓reduceIte]) (AS.set_objs_same _ _ _) (by rw [T.c34]; decide) (by simp only [↓DN,Qa,Qb,Qc,Qd,Qe,Qf,Qg,Qh,reduceCtorEq,↓reduceIte,Na,Nb,Nc,Nk,Nf,Ng,Nh,Za,Zb,Zc,TT]; rfl) ?_
   rw [show recRead b = (⟨q1.1,q2.1,iconv .i64 (q3.1 : Int),iconv .i64 (q4.1 : Int),iconv .i64 (q5.1 : Int),q6.1,q7.1,q8.1,q9.1⟩,0) from by unfold recRead; rw [hrr]; exact (if_pos he).trans (if_pos hr)]
   exact ⟨_,s,AV.weak_tup2 rec_weak (AV.weak.refl _),AS.le_set (AS.le_set (AS.le_set (AS.le_set (AS.le.refl s) ho2 _) hp0 _) h50 _) ho2 _,rfl,rfl⟩
  ·rw [decide_eq_false hr]
   simp only [↓DM,pval,DX,Nz,↓DN,Qa,Qb,Qc,Qd,Qe,Qf,Qg,Qh,reduceCtorEq,↓reduceIte,Na,Nb,Nc,Nk,Nf,Ng,Nh,Za,Zb,Zc,TT]
   refine hK _ _ ?_;clear hK K
   refine wC fun X Y hX hY=>?_
   simp only [UP,DF,Nc,↓reduceIte,DB]
   refine hX ?_;clear hX hY X Y
   refine wS fun K hK=>?_
   simp only [↓DN,Qa,Qb,Qc,Qd,Qe,Qf,Qg,Qh,reduceCtorEq,↓reduceIte,Na,Nb,Nc,Nk,Nf,Ng,Nh,Za,Zb,Zc,TT,h5p,hp5,h52,h25,hp2,h2p]
   refine hK _ _ ?_;clear hK K
   refine awp_ret ?_
   refine aends_cell_tmp (o:=o2) (off:=0) (by simp only [upd,Nc,↓reduceIte]) (AS.set_objs_same _ _ _) (by rw [T.c34]; decide) (by simp only [↓DN,Qa,Qb,Qc,Qd,Qe,Qf,Qg,Qh,reduceCtorEq,↓reduceIte,Na,Nb,Nc,Nk,Nf,Ng,Nh,Za,Zb,Zc,TT]; rfl) ?_
   rw [show recRead b = (Rec.nought,12) from by unfold recRead; rw [hrr]; exact (if_pos he).trans (if_neg hr)]
   exact ⟨_,s,AV.weak_tup2 nought_weak (AV.weak.refl _),AS.le_set (AS.le_set (AS.le_set (AS.le_set (AS.le.refl s) ho2 _) hp0 _) h50 _) ho2 _,rfl,rfl⟩
 ·simp only [↓DM,pval,DX,Nz,↓DN,Qa,Qb,Qc,Qd,Qe,Qf,Qg,Qh,reduceCtorEq,↓reduceIte,Na,Nb,Nc,Nk,Nf,Ng,Nh,Za,Zb,Zc,TT,i64_ne_true _ he]
  refine hK _ _ ?_;clear hK K
  refine wC fun X Y hX hY=>?_
  simp only [UP,DF,Nc,↓reduceIte,DB]
  refine hX ?_;clear hX hY X Y
  refine wS fun K hK=>?_
  simp only [↓DN,Qa,Qb,Qc,Qd,Qe,Qf,Qg,Qh,reduceCtorEq,↓reduceIte,Na,Nb,Nc,Nk,Nf,Ng,Nh,Za,Zb,Zc,TT,h5p,hp5,h52,h25,hp2,h2p]
  refine acallk (reyeEnd_at _ p q9.2 (by rw [AS.set_objs_ne _ hp5,AS.set_objs_same])) ?_
  rintro r s' ⟨rfl,rfl⟩
  simp only [↓DM,pval,DX,Nz,↓DN,Qa,Qb,Qc,Qd,Qe,Qf,Qg,Qh,reduceCtorEq,↓reduceIte,Na,Nb,Nc,Nk,Nf,Ng,Nh,Za,Zb,Zc,TT,h5p,hp5,h52,h25,hp2,h2p]
  refine hK _ _ ?_;clear hK K
  refine awp_ret ?_
  refine aends_cell_tmp (o:=o2) (off:=0) (by simp only [upd,Nc,↓reduceIte]) (AS.set_objs_same _ _ _) (by rw [T.c34]; decide) (by simp only [↓DN,Qa,Qb,Qc,Qd,Qe,Qf,Qg,Qh,reduceCtorEq,↓reduceIte,Na,Nb,Nc,Nk,Nf,Ng,Nh,Za,Zb,Zc,TT]; rfl) ?_
  rw [show recRead b = (Rec.nought,eyeEnd q9.2) from by unfold recRead; rw [hrr]; exact if_neg he]
  exact ⟨_,s,AV.weak_tup2 nought_weak (AV.weak.refl _),AS.le_set (AS.le_set (AS.le_set (AS.le_set (AS.le.refl s) ho2 _) hp0 _) h50 _) ho2 _,rfl,rfl⟩
end Go.Proofs.Ytfbbckndpkmfcaa
namespace Go.Proofs.Ytfbbckndpkmfcaa
open Go Go.AM Go.Proofs
variable {Γ : Nat→List AV}
def ofStep (st : List Rec × Int) (b : List UInt8) : List Rec × Int :=
 if st.2≠0 then st else if (recRead b).2≠0 then (st.1,(recRead b).2) else (addR st.1 (recRead b).1,checkR st.1 (recRead b).1)
def ofT (texts : List (List UInt8)) : List Rec × Int:=texts.foldl ofStep ([],0)
theorem ofT_err {st : List Rec × Int} (h : st.2≠0) : ∀ l : List (List UInt8),l.foldl ofStep st = st
 | []=>rfl
 | b :: l=>by rw [List.foldl_cons,show ofStep st b = st from if_pos h]; exact ofT_err h l
theorem ofT_split {texts : List (List UInt8)} {i : Nat} (h : i < texts.length) : ofT texts = (texts.drop (i + 1)).foldl ofStep (ofStep (ofT (texts.take i)) texts[i]):=by
 conv=>lhs; rw [← List.take_append_drop i texts]
 unfold ofT
 rw [List.foldl_append,List.drop_eq_getElem_cons h,List.foldl_cons]
theorem ofT_take {texts : List (List UInt8)} {i : Nat} (h : i < texts.length) : ofT (texts.take (i + 1)) = ofStep (ofT (texts.take i)) texts[i]:=by
 unfold ofT
 rw [List.take_succ_eq_append_getElem h,List.foldl_append]
 rfl
def Good (l : List Rec) : Prop:=∀ i,(h : i < l.length)→checkR (l.take i) l[i] = 0
theorem good_add {l : List Rec} (h : Good l) (r : Rec) : Good (addR l r):=by
 unfold addR
 split
 ·rename_i hc
  intro i hi
  by_cases e : i < l.length
  ·rw [List.take_append_of_le_length (by omega),List.getElem_append_left e]
   exact h i e
  ·obtain rfl : i = l.length:=by simp at hi; omega
   simp [hc]
 ·exact h
def foldV (l : List Rec) : LedV:=l.foldl addV LedV.new
theorem foldV_snoc (l : List Rec) (r : Rec) : foldV (l ++ [r]) = addV (foldV l) r:=by simp [foldV]
theorem foldV_add {l : List Rec} (hr : Rep (foldV l) l) (r : Rec) : foldV (addR l r) = addV (foldV l) r:=by
 unfold addR
 rw [← hr.check r]
 split
 ·exact foldV_snoc l r
 ·rename_i h; rw [add_err h]
theorem ledOf_calls (texts : List (List UInt8)) (hn : texts.length≤2 ^ 20) (hl : ∀ b ∈ texts,b.length≤2 ^ 40) (s : AS) : ACalls Try.prog Γ 15 [textsV texts] s (fun r s' =>
  s.le s'∧((ofT texts).2≠0∧r = .tup [.v (.pointer none),.v (.int .i64 (ofT texts).2)]∨(ofT texts).2 = 0∧∃ p b1 b2 gs gt ge,r = .tup [.ptr p 0,.v (.int .i64 0)]∧Rep (foldV (ofT texts).1) (ofT texts).1∧Good (ofT texts).1∧(ofT texts).1.length≤texts.length∧LedS s s' p (foldV (ofT texts).1) gs gt ge b1 b2)):=by
 refine acalls_body Try.func15 rfl Try.ntmps15 Try.results15 (by simp) ?_
 have hat:=fun (i : Nat) (hi : i < texts.length)=>text_at1 hi
 unfold textsV
 generalize (texts.map fun b=>bytesV b .any) = X at *
 obtain ⟨R,hR⟩ : ∃ R,R = ofT texts:=⟨_,rfl⟩
 rw [← hR]
 refine wS fun K hK=>?_
 simp only [↓DN,Qa,Qb,Qc,Qd,Qe,Qf,Qg,Qh,reduceCtorEq,↓reduceIte,Na,Nb,Nc,Nk,Nf,Ng,Nh,Za,Zb,Zc,TT]
 refine hK _ _ ?_;clear hK K
 refine wS fun K hK=>?_
 simp only [↓DN,Qa,Qb,Qc,Qd,Qe,Qf,Qg,Qh,reduceCtorEq,↓reduceIte,Na,Nb,Nc,Nk,Nf,Ng,Nh,Za,Zb,Zc,TT]
 refine acallk (ledNew_calls _) ?_
 rintro r s1 ⟨p,b1,b2,rfl,hL⟩
 simp only [↓DM,pval,DX,Nz,↓DN,Qa,Qb,Qc,Qd,Qe,Qf,Qg,Qh,reduceCtorEq,↓reduceIte,Na,Nb,Nc,Nk,Nf,Ng,Nh,Za,Zb,Zc,TT]
 refine hK _ _ ?_;clear hK K
 refine wK fun K hK=>?_
 refine wS fun K hK=>?_
 simp only [↓DN,Qa,Qb,Qc,Qd,Qe,Qf,Qg,Qh,reduceCtorEq,↓reduceIte,Na,Nb,Nc,Nk,Nf,Ng,Nh,Za,Zb,Zc,TT]
 refine hK _ _ ?_;clear hK K
 refine awp_block ?_
 refine awp_loop (fun E s'=>∃ (i : Nat) (l : List Rec) (gs : List GEnt) (gt ge : Nat),i≤texts.length∧E 12 = .v (.int .i64 i)∧E 11 = .v (.int .i64 texts.length)∧E 10 = .sl 1 texts.length X .any∧E 4 = .ptr p 0∧ofT (texts.take i) = (l,0)∧Rep (foldV l) l∧Good l∧l.length≤i∧LedS s s' p (foldV l) gs gt ge b1 b2)
  (fun E _=>match E 12 with | .v (.int _ i)=>texts.length - i.toNat | _=>0) ?_ ?_
 ·exact ⟨0,[],[],0,0,Nat.zero_le _,by simp only [upd,Nc,↓reduceIte]; rfl,by simp only [upd,Nc,↓reduceIte],by simp only [upd,initE,List.getD_cons_zero,List.getD_cons_succ,Nc,↓reduceIte],by simp only [upd,Nc,↓reduceIte],rfl,rep_new,fun i h=>absurd h (by simp),Nat.le_refl _,hL⟩
 clear hL
 rintro E1 s2 ⟨i,l,gs,gt,ge,hi,g12,g11,g10,g4,hof,hr,hgd,hli,hL⟩ -
 by_cases hi' : i < texts.length
 ·refine wS fun K hK=>?_
  simp only [↓DN,Qa,Qb,Qc,Qd,Qe,Qf,Qg,Qh,reduceCtorEq,↓reduceIte,Na,Nb,Nc,Nk,Nf,Ng,Nh,Za,Zb,Zc,TT,g12,g11,eye_lt_nat,decide_eq_true hi']
  refine hK _ _ ?_;clear hK K
  refine wK fun K2 hK2=>?_
  refine wC fun X Y hX hY=>?_
  simp only [UP,DF,Nc,↓reduceIte,DB]
  refine hX ?_;clear hX hY X Y
  refine awp_skip ?_
  refine hK2 _ _ ?_;clear hK2 K2
  refine wK fun K3 hK3=>?_
  refine awp_block ?_
  have hge : (0 : Int)≤((i : Nat) : Int):=by omega
  have hat':=hat i hi'
  have hb40:=hl _ (List.getElem_mem hi')
  have htk:=ofT_take hi'
  have hsp:=ofT_split hi'
  rw [← hR] at hsp
  rw [hof] at htk hsp
  unfold ofStep at htk hsp
  rw [if_neg (by simp)] at htk hsp
  generalize texts[i] = b at *
  have hrd:=fun s=>recRead_calls (Γ:=Γ) b (by omega) s
  generalize recRead b = q at *
  obtain ⟨r,e⟩:=q
  simp only at htk hsp hrd
  have hin:=hr.rises.inv (by rw [hr.count]; omega)
  have hc0:=hr.rises.2.2.2
  have hcl:=hr.count
  have hgl : gs.length≤2 ^ 40:=by
   have h1:=totE_geN hr.rises
   have h2:=hr.rises.2.2.1
   have h3 : (foldV l).gs.length = gs.length:=by rw [hL.val,List.length_map]
   omega
  have hadd:=fun (s' : AS) (h : LedS s s' p (foldV l) gs gt ge b1 b2)=>ledAdd_calls (Γ:=Γ) h hin ⟨by omega,by omega⟩ hgl r
  have hst:=rep_step hr r
  rw [← foldV_add hr r] at hst hadd
  have hsl:=addR_len l r
  have hgd':=good_add hgd r
  simp only [hr.check r] at hadd
  obtain ⟨rk,rg,re,rt,rb,ry,rtr,rsc,rw'⟩:=r
  unfold Rec.cells bytesV at hrd
  unfold bytesV at hat'
  refine wS fun K hK=>?_
  simp only [↓DN,Qa,Qb,Qc,Qd,Qe,Qf,Qg,Qh,reduceCtorEq,↓reduceIte,Na,Nb,Nc,Nk,Nf,Ng,Nh,Za,Zb,Zc,TT,g10,g12,hge,eye_lt_nat,hi',hat']
  refine hK _ _ ?_;clear hK K
  refine wS fun K hK=>?_
  simp only [↓DN,Qa,Qb,Qc,Qd,Qe,Qf,Qg,Qh,reduceCtorEq,↓reduceIte,Na,Nb,Nc,Nk,Nf,Ng,Nh,Za,Zb,Zc,TT]
  refine acallk (hrd _) ?_
  rintro r s3 ⟨rfl,rfl⟩
  simp only [↓DM,pval,DX,Nz,↓DN,Qa,Qb,Qc,Qd,Qe,Qf,Qg,Qh,reduceCtorEq,↓reduceIte,Na,Nb,Nc,Nk,Nf,Ng,Nh,Za,Zb,Zc,TT]
  intro o7 q7
  refine hK _ _ ?_
  clear hK
  have hL5:=ledS_more hL (AS.le_set (AS.le.refl s3) q7 [.v (.int .i64 rk),.sl 1 rg.length (rg.map byteV) .any,.v (.int .i64 re),.v (.int .i64 rt),.v (.int .i64 rb),.sl 1 ry.length (ry.map byteV) .any,.sl 1 rtr.length (rtr.map byteV) .any,.sl 1 rsc.length (rsc.map byteV) .any,.sl 1 rw'.length (rw'.map byteV) .any])
  have ho7:=AS.set_objs_same s3 o7 [.v (.int .i64 rk),.sl 1 rg.length (rg.map byteV) .any,.v (.int .i64 re),.v (.int .i64 rt),.v (.int .i64 rb),.sl 1 ry.length (ry.map byteV) .any,.sl 1 rtr.length (rtr.map byteV) .any,.sl 1 rsc.length (rsc.map byteV) .any,.sl 1 rw'.length (rw'.map byteV) .any]
  generalize s3.set o7 [.v (.int .i64 rk),.sl 1 rg.length (rg.map byteV) .any,.v (.int .i64 re),.v (.int .i64 rt),.v (.int .i64 rb),.sl 1 ry.length (ry.map byteV) .any,.sl 1 rtr.length (rtr.map byteV) .any,.sl 1 rsc.length (rsc.map byteV) .any,.sl 1 rw'.length (rw'.map byteV) .any] = s5 at *
  clear hrd hat' hat hL
  refine wK fun K4 hK4=>?_
  have hJ : ∀ (E : Env) (s6 : AS) (e' : Int) (l' : List Rec) (gs' : List GEnt) (gt' ge' : Nat),E 8 = .v (.int .i64 e')→E 12 = .v (.int .i64 i)→E 11 = .v (.int .i64 texts.length)→E 10 = .sl 1 texts.length X .any→E 4 = .ptr p 0 →
    ofT (texts.take (i + 1)) = (l',e')→R = (texts.drop (i + 1)).foldl ofStep (l',e')→Rep (foldV l') l'→Good l'→l'.length≤i + 1→LedS s s6 p (foldV l') gs' gt' ge' b1 b2→K4 E s6:=by
   intro E s6 e' l' gs' gt' ge' f8 f12 f11 f10 f4 hof' hR' hr' hgd' hli' hL'
   refine hK4 _ _ ?_;clear hK4 K4
   by_cases he : e' = 0
   ·refine wS fun K hK=>?_
    simp only [↓DN,Qa,Qb,Qc,Qd,Qe,Qf,Qg,Qh,reduceCtorEq,↓reduceIte,Na,Nb,Nc,Nk,Nf,Ng,Nh,Za,Zb,Zc,TT,f8,int_bne_false he]
    refine hK _ _ ?_;clear hK K
    refine wC fun X Y hX hY=>?_
    simp only [UP,DF,Nc,↓reduceIte,DB]
    refine hY ?_;clear hX hY X Y
    refine awp_skip ?_
    simp only [blockQ,thenQ]
    refine hK3 _ _ ?_;clear hK3 K3
    subst he
    refine wE fun K hK=>?_
    simp only [↓DN,Qa,Qb,Qc,Qd,Qe,Qf,Qg,Qh,reduceCtorEq,↓reduceIte,Na,Nb,Nc,Nk,Nf,Ng,Nh,Za,Zb,Zc,TT,f12,eye_succM i (by omega)]
    refine hK _ _ ?_;clear hK K
    refine ⟨⟨i + 1,l',gs',gt',ge',hi',by simp only [upd,Nc,↓reduceIte],by simp only [upd,f11,Nc,↓reduceIte],by simp only [upd,f10,Nc,↓reduceIte],by simp only [upd,f4,Nc,↓reduceIte],hof',hr',hgd',hli',hL'⟩,?_⟩
    simp only [g12,upd,↓reduceIte]
    omega
   ·rw [ofT_err (st:=(l',e')) he] at hR'
    refine wS fun K hK=>?_
    simp only [↓DN,Qa,Qb,Qc,Qd,Qe,Qf,Qg,Qh,reduceCtorEq,↓reduceIte,Na,Nb,Nc,Nk,Nf,Ng,Nh,Za,Zb,Zc,TT,f8,int_bne_true he]
    refine hK _ _ ?_;clear hK K
    refine wC fun X Y hX hY=>?_
    simp only [UP,DF,Nc,↓reduceIte,DB]
    refine hX ?_;clear hX hY X Y
    refine wS fun K hK=>?_
    simp only [↓DN,Qa,Qb,Qc,Qd,Qe,Qf,Qg,Qh,reduceCtorEq,↓reduceIte,Na,Nb,Nc,Nk,Nf,Ng,Nh,Za,Zb,Zc,TT,f8]
    refine hK _ _ ?_;clear hK K
    refine awp_ret ?_
    try simp only [thenQ,blockQ]
    simp only [retQ,AEnds,aresL,ares,List.toList_toArray,↓upd_same]; try simp only [UP,DF,Nc,↓reduceIte,DT]
    rw [hR']
    exact ⟨_,_,AV.weak.refl _,AS.le.refl _,hL'.le,.inl ⟨he,rfl⟩⟩
  clear hK4 hK3
  by_cases he : e = 0
  ·rw [if_neg (by simp [he])] at htk hsp
   refine wS fun K hK=>?_
   simp only [↓DN,Qa,Qb,Qc,Qd,Qe,Qf,Qg,Qh,reduceCtorEq,↓reduceIte,Na,Nb,Nc,Nk,Nf,Ng,Nh,Za,Zb,Zc,TT,int_eq_yes he]
   refine hK _ _ ?_;clear hK K
   refine wC fun X Y hX hY=>?_
   simp only [UP,DF,Nc,↓reduceIte,DB]
   refine hX ?_;clear hX hY X Y
   refine wE fun K hK=>?_
   simp only [↓DN,Qa,Qb,Qc,Qd,Qe,Qf,Qg,Qh,reduceCtorEq,↓reduceIte,Na,Nb,Nc,Nk,Nf,Ng,Nh,Za,Zb,Zc,TT,g4,ho7]
   refine acallk (hadd _ hL5) ?_
   rintro v s6 ⟨rfl,gs',gt',ge',hL6⟩
   simp only [↓DM,pval,DX,Nz,↓DN,Qa,Qb,Qc,Qd,Qe,Qf,Qg,Qh,reduceCtorEq,↓reduceIte,Na,Nb,Nc,Nk,Nf,Ng,Nh,Za,Zb,Zc,TT]
   exact hK _ _ (hJ _ _ _ _ gs' gt' ge' (by simp only [upd,Nc,↓reduceIte]) (by simp only [upd,g12,Nc,↓reduceIte]) (by simp only [upd,g11,Nc,↓reduceIte]) (by simp only [upd,g10,Nc,↓reduceIte]) (by simp only [upd,g4,Nc,↓reduceIte]) htk hsp hst hgd' (by omega) hL6)
  ·rw [if_pos he] at htk hsp
   refine wS fun K hK=>?_
   simp only [↓DN,Qa,Qb,Qc,Qd,Qe,Qf,Qg,Qh,reduceCtorEq,↓reduceIte,Na,Nb,Nc,Nk,Nf,Ng,Nh,Za,Zb,Zc,TT,int_eq_no he]
   refine hK _ _ ?_;clear hK K
   refine wC fun X Y hX hY=>?_
   simp only [UP,DF,Nc,↓reduceIte,DB]
   refine hY ?_;clear hX hY X Y
   refine awp_skip ?_
   exact hJ _ _ _ _ gs gt ge (by simp only [upd,Nc,↓reduceIte]) (by simp only [upd,g12,Nc,↓reduceIte]) (by simp only [upd,g11,Nc,↓reduceIte]) (by simp only [upd,g10,Nc,↓reduceIte]) (by simp only [upd,g4,Nc,↓reduceIte]) htk hsp hr hgd (by omega) hL5
 ·refine wS fun K hK=>?_
  simp only [↓DN,Qa,Qb,Qc,Qd,Qe,Qf,Qg,Qh,reduceCtorEq,↓reduceIte,Na,Nb,Nc,Nk,Nf,Ng,Nh,Za,Zb,Zc,TT,g12,g11,eye_lt_nat,decide_eq_false hi']
  refine hK _ _ ?_;clear hK K
  refine wK fun K2 hK2=>?_
  refine wC fun X Y hX hY=>?_
  simp only [UP,DF,Nc,↓reduceIte,DB]
  refine hY ?_;clear hX hY X Y
  refine awp_exit ?_
  simp only [thenQ,blockQ,if_true]
  refine hK _ _ ?_;clear hK hK2 K2 K
  rw [List.take_of_length_le (by omega),← hR] at hof
  clear hR
  subst hof
  refine wS fun K hK=>?_
  simp only [↓DN,Qa,Qb,Qc,Qd,Qe,Qf,Qg,Qh,reduceCtorEq,↓reduceIte,Na,Nb,Nc,Nk,Nf,Ng,Nh,Za,Zb,Zc,TT,g4]
  refine hK _ _ ?_;clear hK K
  refine awp_ret ?_
  try simp only [thenQ,blockQ]
  simp only [retQ,AEnds,aresL,ares,List.toList_toArray,↓upd_same]; try simp only [UP,DF,Nc,↓reduceIte,DT]
  exact ⟨_,_,AV.weak.refl _,AS.le.refl _,hL.le,.inr ⟨p,b1,b2,gs,gt,ge,rfl,hr,hgd,by omega,hL⟩⟩
theorem upd1_le {q : Nat} {s s1 s2 : AS} (h : s.le s1) (u : Upd1 q s1 s2) (hq : s.objs q = none) : s.le s2 :=
 ⟨fun o cs k=>u.objs o cs (by rintro rfl; rw [hq] at k; cases k) (h.objs o cs k),fun t e k=>u.own t e (h.own t e k),fun b m k=>u.maps b m (h.maps b m k)⟩
theorem refOf_calls (texts : List (List UInt8)) (hn : texts.length≤2 ^ 20) (hl : ∀ b ∈ texts,b.length≤2 ^ 40) (s : AS) : ACalls Try.prog Γ 16 [strsV texts] s (fun r s' =>
  s.le s'∧((ofT texts).2≠0∧r = .tup [.v (.pointer none),.v (.int .i64 (ofT texts).2)]∨(ofT texts).2 = 0∧∃ q,r = .tup [.ptr q 0,.v (.int .i64 0)]∧s'.objs q = some [recsV (ofT texts).1])):=by
 refine acalls_body Try.func16 rfl Try.ntmps16 Try.results16 (by simp) ?_
 have hat:=fun (i : Nat) (hi : i < texts.length)=>take_map strC hi
 unfold strsV
 generalize texts.map strC = X at *
 obtain ⟨R,hR⟩ : ∃ R,R = ofT texts:=⟨_,rfl⟩
 rw [← hR]
 refine wS fun K hK=>?_
 simp only [↓DN,Qa,Qb,Qc,Qd,Qe,Qf,Qg,Qh,reduceCtorEq,↓reduceIte,Na,Nb,Nc,Nk,Nf,Ng,Nh,Za,Zb,Zc,TT]
 refine hK _ _ ?_;clear hK K
 refine wS fun K hK=>?_
 simp only [↓DN,Qa,Qb,Qc,Qd,Qe,Qf,Qg,Qh,reduceCtorEq,↓reduceIte,Na,Nb,Nc,Nk,Nf,Ng,Nh,Za,Zb,Zc,TT]
 intro q hq
 refine hK _ _ ?_;clear hK K
 have hqs:=AS.set_objs_same s q [.v (.slice none 0 0)]
 have hu0 : s.le (s.set q [.v (.slice none 0 0)]):=AS.le_set (AS.le.refl s) hq _
 generalize s.set q [.v (.slice none 0 0)] = s4 at *
 refine awp_tells (AS.tells_obj hqs (.cons (AV.weak_nil (sz:=9)) .nil)) ?_
 have hq5 : (s4.set q [AV.sl 9 0 [] .any]).objs q = some [recsV []]:=AS.set_objs_same s4 q [recsV []]
 have hle5 : s.le (s4.set q [AV.sl 9 0 [] .any]):=AS.le_set hu0 hq _
 generalize s4.set q [AV.sl 9 0 [] .any] = s5 at *
 clear hu0 hqs
 refine wK fun K hK=>?_
 refine wS fun K hK=>?_
 simp only [↓DN,Qa,Qb,Qc,Qd,Qe,Qf,Qg,Qh,reduceCtorEq,↓reduceIte,Na,Nb,Nc,Nk,Nf,Ng,Nh,Za,Zb,Zc,TT]
 refine hK _ _ ?_;clear hK K
 refine awp_block ?_
 refine awp_loop (fun E s'=>∃ (i : Nat) (l : List Rec),i≤texts.length∧E 5 = .v (.int .i64 i)∧E 0 = .sl 1 texts.length X .any∧E 4 = .ptr q 0∧ofT (texts.take i) = (l,0)∧Rep (foldV l) l∧l.length≤i∧s'.objs q = some [recsV l]∧s.le s')
  (fun E _=>match E 5 with | .v (.int _ i)=>texts.length - i.toNat | _=>0) ?_ ?_
 ·exact ⟨0,[],Nat.zero_le _,by simp only [upd,Nc,↓reduceIte]; rfl,by simp only [upd,initE,List.getD_cons_zero,List.getD_cons_succ,Nc,↓reduceIte],by simp only [upd,Nc,↓reduceIte],rfl,rep_new,Nat.le_refl _,hq5,hle5⟩
 clear hq5 hle5
 rintro E1 s2 ⟨i,l,hi,g5,g0,g4,hof,hr,hli,hob,hle⟩ -
 refine wK fun K2 hK2=>?_
 by_cases hi' : i < texts.length
 ·refine wS fun K hK=>?_
  simp only [↓DN,Qa,Qb,Qc,Qd,Qe,Qf,Qg,Qh,reduceCtorEq,↓reduceIte,Na,Nb,Nc,Nk,Nf,Ng,Nh,Za,Zb,Zc,TT,g5,g0,eye_lt_nat,decide_eq_true hi']
  refine hK _ _ ?_;clear hK K
  refine wC fun X Y hX hY=>?_
  simp only [UP,DF,Nc,↓reduceIte,DB]
  refine hX ?_;clear hX hY X Y
  refine awp_skip ?_
  refine hK2 _ _ ?_;clear hK2 K2
  refine wK fun K3 hK3=>?_
  refine awp_block ?_
  have hge : (0 : Int)≤((i : Nat) : Int):=by omega
  have hat':=hat i hi'
  have hb40:=hl _ (List.getElem_mem hi')
  have htk:=ofT_take hi'
  have hsp:=ofT_split hi'
  rw [← hR] at hsp
  rw [hof] at htk hsp
  unfold ofStep at htk hsp
  rw [if_neg (by simp)] at htk hsp
  generalize texts[i] = b at *
  have hrd:=fun s=>refRecRead_calls (Γ:=Γ) b (by omega) s
  generalize recRead b = q' at *
  obtain ⟨r,e⟩:=q'
  simp only at htk hsp hrd
  have hadd:=fun (s' : AS) (h : s'.objs q = some [recsV l])=>refAdd_calls (Γ:=Γ) h (by omega) r (rep_ep hr r.group)
  have hst:=rep_step hr r
  rw [← foldV_add hr r] at hst
  have hsl:=addR_len l r
  unfold strC at hat'
  obtain ⟨rk,rg,re,rt,rb,ry,rtr,rsc,rw'⟩:=r
  unfold Rec.cells bytesV at hrd
  refine wS fun K hK=>?_
  simp only [↓DN,Qa,Qb,Qc,Qd,Qe,Qf,Qg,Qh,reduceCtorEq,↓reduceIte,Na,Nb,Nc,Nk,Nf,Ng,Nh,Za,Zb,Zc,TT,g0,g5,hge,eye_lt_nat,hi',hat']
  refine acallk (hrd _) ?_
  rintro r s3 ⟨rfl,rfl⟩
  simp only [↓DM,pval,DX,Nz,↓DN,Qa,Qb,Qc,Qd,Qe,Qf,Qg,Qh,reduceCtorEq,↓reduceIte,Na,Nb,Nc,Nk,Nf,Ng,Nh,Za,Zb,Zc,TT]
  intro o6 q6
  refine hK _ _ ?_
  clear hK
  have hne6 : q≠o6:=by rintro rfl; rw [hob] at q6; cases q6
  have hob5:=(AS.set_objs_ne s3 hne6 [.v (.int .i64 rk),.sl 1 rg.length (rg.map byteV) .any,.v (.int .i64 re),.v (.int .i64 rt),.v (.int .i64 rb),.sl 1 ry.length (ry.map byteV) .any,.sl 1 rtr.length (rtr.map byteV) .any,.sl 1 rsc.length (rsc.map byteV) .any,.sl 1 rw'.length (rw'.map byteV) .any]).trans hob
  have hle5:=AS.le_set hle (AS.le_none hle q6) [.v (.int .i64 rk),.sl 1 rg.length (rg.map byteV) .any,.v (.int .i64 re),.v (.int .i64 rt),.v (.int .i64 rb),.sl 1 ry.length (ry.map byteV) .any,.sl 1 rtr.length (rtr.map byteV) .any,.sl 1 rsc.length (rsc.map byteV) .any,.sl 1 rw'.length (rw'.map byteV) .any]
  have ho6:=AS.set_objs_same s3 o6 [.v (.int .i64 rk),.sl 1 rg.length (rg.map byteV) .any,.v (.int .i64 re),.v (.int .i64 rt),.v (.int .i64 rb),.sl 1 ry.length (ry.map byteV) .any,.sl 1 rtr.length (rtr.map byteV) .any,.sl 1 rsc.length (rsc.map byteV) .any,.sl 1 rw'.length (rw'.map byteV) .any]
  generalize s3.set o6 [.v (.int .i64 rk),.sl 1 rg.length (rg.map byteV) .any,.v (.int .i64 re),.v (.int .i64 rt),.v (.int .i64 rb),.sl 1 ry.length (ry.map byteV) .any,.sl 1 rtr.length (rtr.map byteV) .any,.sl 1 rsc.length (rsc.map byteV) .any,.sl 1 rw'.length (rw'.map byteV) .any] = s5 at *
  clear hrd hat' hat hob hle
  refine wK fun K4 hK4=>?_
  have hJ : ∀ (E : Env) (s6 : AS) (e' : Int) (l' : List Rec),E 7 = .v (.int .i64 e')→E 5 = .v (.int .i64 i)→E 0 = .sl 1 texts.length X .any→E 4 = .ptr q 0 →
    ofT (texts.take (i + 1)) = (l',e')→R = (texts.drop (i + 1)).foldl ofStep (l',e')→Rep (foldV l') l'→l'.length≤i + 1→s6.objs q = some [recsV l']→s.le s6→K4 E s6:=by
   intro E s6 e' l' f7 f5 f0 f4 hof' hR' hr' hli' hob' hle'
   refine hK4 _ _ ?_;clear hK4 K4
   by_cases he : e' = 0
   ·refine wS fun K hK=>?_
    simp only [↓DN,Qa,Qb,Qc,Qd,Qe,Qf,Qg,Qh,reduceCtorEq,↓reduceIte,Na,Nb,Nc,Nk,Nf,Ng,Nh,Za,Zb,Zc,TT,f7,int_bne_false he]
    refine hK _ _ ?_;clear hK K
    refine wC fun X Y hX hY=>?_
    simp only [UP,DF,Nc,↓reduceIte,DB]
    refine hY ?_;clear hX hY X Y
    refine awp_skip ?_
    simp only [blockQ,thenQ]
    refine hK3 _ _ ?_;clear hK3 K3
    subst he
    refine wE fun K hK=>?_
    simp only [↓DN,Qa,Qb,Qc,Qd,Qe,Qf,Qg,Qh,reduceCtorEq,↓reduceIte,Na,Nb,Nc,Nk,Nf,Ng,Nh,Za,Zb,Zc,TT,f5,eye_succM i (by omega)]
    refine hK _ _ ?_;clear hK K
    refine ⟨⟨i + 1,l',hi',by simp only [upd,Nc,↓reduceIte],by simp only [upd,f0,Nc,↓reduceIte],by simp only [upd,f4,Nc,↓reduceIte],hof',hr',hli',hob',hle'⟩,?_⟩
    simp only [g5,upd,↓reduceIte]
    omega
   ·rw [ofT_err (st:=(l',e')) he] at hR'
    refine wS fun K hK=>?_
    simp only [↓DN,Qa,Qb,Qc,Qd,Qe,Qf,Qg,Qh,reduceCtorEq,↓reduceIte,Na,Nb,Nc,Nk,Nf,Ng,Nh,Za,Zb,Zc,TT,f7,int_bne_true he]
    refine hK _ _ ?_;clear hK K
    refine wC fun X Y hX hY=>?_
    simp only [UP,DF,Nc,↓reduceIte,DB]
    refine hX ?_;clear hX hY X Y
    refine wS fun K hK=>?_
    simp only [↓DN,Qa,Qb,Qc,Qd,Qe,Qf,Qg,Qh,reduceCtorEq,↓reduceIte,Na,Nb,Nc,Nk,Nf,Ng,Nh,Za,Zb,Zc,TT,f7]
    refine hK _ _ ?_;clear hK K
    refine awp_ret ?_
    try simp only [thenQ,blockQ]
    simp only [retQ,AEnds,aresL,ares,List.toList_toArray,↓upd_same]; try simp only [UP,DF,Nc,↓reduceIte,DT]
    rw [hR']
    exact ⟨_,_,AV.weak.refl _,AS.le.refl _,hle',.inl ⟨he,rfl⟩⟩
  clear hK4 hK3
  by_cases he : e = 0
  ·rw [if_neg (by simp [he])] at htk hsp
   refine wS fun K hK=>?_
   simp only [↓DN,Qa,Qb,Qc,Qd,Qe,Qf,Qg,Qh,reduceCtorEq,↓reduceIte,Na,Nb,Nc,Nk,Nf,Ng,Nh,Za,Zb,Zc,TT,int_eq_yes he]
   refine hK _ _ ?_;clear hK K
   refine wC fun X Y hX hY=>?_
   simp only [UP,DF,Nc,↓reduceIte,DB]
   refine hX ?_;clear hX hY X Y
   refine wE fun K hK=>?_
   simp only [↓DN,Qa,Qb,Qc,Qd,Qe,Qf,Qg,Qh,reduceCtorEq,↓reduceIte,Na,Nb,Nc,Nk,Nf,Ng,Nh,Za,Zb,Zc,TT,g4,ho6]
   refine acallk (hadd _ hob5) ?_
   rintro v s6 ⟨rfl,hob6,hu6⟩
   simp only [↓DM,pval,DX,Nz,↓DN,Qa,Qb,Qc,Qd,Qe,Qf,Qg,Qh,reduceCtorEq,↓reduceIte,Na,Nb,Nc,Nk,Nf,Ng,Nh,Za,Zb,Zc,TT]
   exact hK _ _ (hJ _ _ _ _ (by simp only [upd,Nc,↓reduceIte]) (by simp only [upd,g5,Nc,↓reduceIte]) (by simp only [upd,g0,Nc,↓reduceIte]) (by simp only [upd,g4,Nc,↓reduceIte]) htk hsp hst (by omega) hob6 (upd1_le hle5 hu6 hq))
  ·rw [if_pos he] at htk hsp
   refine wS fun K hK=>?_
   simp only [↓DN,Qa,Qb,Qc,Qd,Qe,Qf,Qg,Qh,reduceCtorEq,↓reduceIte,Na,Nb,Nc,Nk,Nf,Ng,Nh,Za,Zb,Zc,TT,int_eq_no he]
   refine hK _ _ ?_;clear hK K
   refine wC fun X Y hX hY=>?_
   simp only [UP,DF,Nc,↓reduceIte,DB]
   refine hY ?_;clear hX hY X Y
   refine awp_skip ?_
   exact hJ _ _ _ _ (by simp only [upd,Nc,↓reduceIte]) (by simp only [upd,g5,Nc,↓reduceIte]) (by simp only [upd,g0,Nc,↓reduceIte]) (by simp only [upd,g4,Nc,↓reduceIte]) htk hsp hr (by omega) hob5 hle5
 ·refine wS fun K hK=>?_
  simp only [↓DN,Qa,Qb,Qc,Qd,Qe,Qf,Qg,Qh,reduceCtorEq,↓reduceIte,Na,Nb,Nc,Nk,Nf,Ng,Nh,Za,Zb,Zc,TT,g5,g0,eye_lt_nat,decide_eq_false hi']
  refine hK _ _ ?_;clear hK K
  refine wC fun X Y hX hY=>?_
  simp only [UP,DF,Nc,↓reduceIte,DB]
  refine hY ?_;clear hX hY X Y
  refine awp_exit ?_
  simp only [thenQ,blockQ,if_true]
  refine hK _ _ ?_;clear hK hK2 K2 K
  rw [List.take_of_length_le (by omega),← hR] at hof
  clear hR
  subst hof
  refine wS fun K hK=>?_
  simp only [↓DN,Qa,Qb,Qc,Qd,Qe,Qf,Qg,Qh,reduceCtorEq,↓reduceIte,Na,Nb,Nc,Nk,Nf,Ng,Nh,Za,Zb,Zc,TT,g4]
  refine hK _ _ ?_;clear hK K
  refine awp_ret ?_
  try simp only [thenQ,blockQ]
  simp only [retQ,AEnds,aresL,ares,List.toList_toArray,↓upd_same]; try simp only [UP,DF,Nc,↓reduceIte,DT]
  exact ⟨_,_,AV.weak.refl _,AS.le.refl _,hle,.inr ⟨q,rfl,hob⟩⟩
end Go.Proofs.Ytfbbckndpkmfcaa
namespace Go.Proofs.Ytfbbckndpkmfcaa
open Go Go.AM Go.Proofs
variable {Γ : Nat→List AV}
theorem ledgerBuilds_calls (texts : List (List UInt8)) (s : AS) : ACalls Try.prog Γ 4 [textsV texts] s (fun r s'=>r = .v (.bool true)):=by
 refine acalls_body Try.func4 rfl Try.ntmps4 Try.results4 (by simp) ?_
 have hat:=fun (i : Nat) (hi : i < texts.length)=>text_at1 hi
 have hof:=fun (h1 : texts.length≤2 ^ 20) (h2 : ∀ b ∈ texts,b.length≤2 ^ 40) s=>ledOf_calls (Γ:=Γ) texts h1 h2 s
 have hor:=fun (h1 : texts.length≤2 ^ 20) (h2 : ∀ b ∈ texts,b.length≤2 ^ 40) s=>refOf_calls (Γ:=Γ) texts h1 h2 s
 have htx:=fun (h1 : texts.length≤2 ^ 30) s=>texts_calls (Γ:=Γ) texts h1 s
 unfold textsV at *
 generalize (texts.map fun b=>bytesV b .any) = X at *
 refine wS fun K hK=>?_
 simp only [↓DN,Qa,Qb,Qc,Qd,Qe,Qf,Qg,Qh,reduceCtorEq,↓reduceIte,Na,Nb,Nc,Nk,Nf,Ng,Nh,Za,Zb,Zc,TT]
 refine hK _ _ ?_;clear hK K
 refine wK fun K hK=>?_
 refine wS fun K hK=>?_
 simp only [↓DN,Qa,Qb,Qc,Qd,Qe,Qf,Qg,Qh,reduceCtorEq,↓reduceIte,Na,Nb,Nc,Nk,Nf,Ng,Nh,Za,Zb,Zc,TT]
 refine acallk (awake28_calls _) ?_
 rintro r s1 ⟨rfl,rfl⟩
 by_cases h40 : (40 : Int) < (texts.length : Int)
 ·simp only [↓DM,pval,DX,Nz,↓DN,Qa,Qb,Qc,Qd,Qe,Qf,Qg,Qh,reduceCtorEq,↓reduceIte,Na,Nb,Nc,Nk,Nf,Ng,Nh,Za,Zb,Zc,TT,decide_eq_true h40]
  refine hK _ _ ?_;clear hK K
  refine wC fun X Y hX hY=>?_
  simp only [UP,DF,Nc,↓reduceIte,DB]
  refine hX ?_;clear hX hY X Y
  refine wS fun K hK=>?_
  simp only [↓DN,Qa,Qb,Qc,Qd,Qe,Qf,Qg,Qh,reduceCtorEq,↓reduceIte,Na,Nb,Nc,Nk,Nf,Ng,Nh,Za,Zb,Zc,TT]
  refine acallk (awake28_calls _) ?_
  rintro r s3 ⟨rfl,rfl⟩
  simp only [↓DM,pval,DX,Nz,↓DN,Qa,Qb,Qc,Qd,Qe,Qf,Qg,Qh,reduceCtorEq,↓reduceIte,Na,Nb,Nc,Nk,Nf,Ng,Nh,Za,Zb,Zc,TT]
  refine hK _ _ ?_;clear hK K
  refine awp_ret ?_
  try simp only [thenQ,blockQ]
  simp only [retQ,AEnds,aresL,ares,List.toList_toArray,↓upd_same]; try simp only [UP,DF,Nc,↓reduceIte,DT]
  exact ⟨_,_,AV.weak.refl _,AS.le.refl _,rfl⟩
 simp only [↓DM,pval,DX,Nz,↓DN,Qa,Qb,Qc,Qd,Qe,Qf,Qg,Qh,reduceCtorEq,↓reduceIte,Na,Nb,Nc,Nk,Nf,Ng,Nh,Za,Zb,Zc,TT,decide_eq_false h40]
 refine hK _ _ ?_;clear hK K
 refine wC fun X Y hX hY=>?_
 simp only [UP,DF,Nc,↓reduceIte,DB]
 refine hY ?_;clear hX hY X Y
 refine awp_skip ?_
 refine hK _ _ ?_;clear hK K
 refine wK fun K hK=>?_
 refine wS fun K hK=>?_
 simp only [↓DN,Qa,Qb,Qc,Qd,Qe,Qf,Qg,Qh,reduceCtorEq,↓reduceIte,Na,Nb,Nc,Nk,Nf,Ng,Nh,Za,Zb,Zc,TT]
 refine hK _ _ ?_;clear hK K
 refine awp_block ?_
 refine awp_loop (fun E s'=>∃ i : Nat,i≤texts.length∧E 3 = .v (.int .i64 i)∧E 0 = .sl 1 texts.length X .any∧(∀ b ∈ texts.take i,b.length≤600))
  (fun E _=>match E 3 with | .v (.int _ i)=>texts.length - i.toNat | _=>0) ?_ ?_
 ·exact ⟨0,Nat.zero_le _,by simp only [upd,Nc,↓reduceIte]; rfl,by simp only [upd,initE,List.getD_cons_zero,List.getD_cons_succ,Nc,↓reduceIte],by simp⟩
 rintro E1 s2 ⟨i,hi,g3,g0,hall⟩ -
 refine wK fun K2 hK2=>?_
 by_cases hi' : i < texts.length
 ·refine wS fun K hK=>?_
  simp only [↓DN,Qa,Qb,Qc,Qd,Qe,Qf,Qg,Qh,reduceCtorEq,↓reduceIte,Na,Nb,Nc,Nk,Nf,Ng,Nh,Za,Zb,Zc,TT,g3,g0,eye_lt_nat,decide_eq_true hi']
  refine hK _ _ ?_;clear hK K
  refine wC fun X Y hX hY=>?_
  simp only [UP,DF,Nc,↓reduceIte,DB]
  refine hX ?_;clear hX hY X Y
  refine awp_skip ?_
  refine hK2 _ _ ?_;clear hK2 K2
  refine wK fun K3 hK3=>?_
  refine awp_block ?_
  have hge : (0 : Int)≤((i : Nat) : Int):=by omega
  have hat':=hat i hi'
  have htk:=List.take_succ_eq_append_getElem hi'
  generalize texts[i] = b at *
  unfold bytesV at hat'
  by_cases hb : (600 : Int) < (b.length : Int)
  ·refine wS fun K hK=>?_
   simp only [↓DN,Qa,Qb,Qc,Qd,Qe,Qf,Qg,Qh,reduceCtorEq,↓reduceIte,Na,Nb,Nc,Nk,Nf,Ng,Nh,Za,Zb,Zc,TT,g3,g0,hge,eye_lt_nat,hi',hat',decide_eq_true hb]
   refine hK _ _ ?_;clear hK K
   refine wC fun X Y hX hY=>?_
   simp only [UP,DF,Nc,↓reduceIte,DB]
   refine hX ?_;clear hX hY X Y
   refine wS fun K hK=>?_
   simp only [↓DN,Qa,Qb,Qc,Qd,Qe,Qf,Qg,Qh,reduceCtorEq,↓reduceIte,Na,Nb,Nc,Nk,Nf,Ng,Nh,Za,Zb,Zc,TT]
   refine hK _ _ ?_;clear hK K
   refine awp_ret ?_
   try simp only [thenQ,blockQ]
   simp only [retQ,AEnds,aresL,ares,List.toList_toArray,↓upd_same]; try simp only [UP,DF,Nc,↓reduceIte,DT]
   exact ⟨_,_,AV.weak.refl _,AS.le.refl _,rfl⟩
  ·refine wS fun K hK=>?_
   simp only [↓DN,Qa,Qb,Qc,Qd,Qe,Qf,Qg,Qh,reduceCtorEq,↓reduceIte,Na,Nb,Nc,Nk,Nf,Ng,Nh,Za,Zb,Zc,TT,g3,g0,hge,eye_lt_nat,hi',hat',decide_eq_false hb]
   refine hK _ _ ?_;clear hK K
   refine wC fun X Y hX hY=>?_
   simp only [UP,DF,Nc,↓reduceIte,DB]
   refine hY ?_;clear hX hY X Y
   refine awp_skip ?_
   simp only [blockQ,thenQ]
   refine hK3 _ _ ?_;clear hK3 K3
   refine wE fun K hK=>?_
   simp only [↓DN,Qa,Qb,Qc,Qd,Qe,Qf,Qg,Qh,reduceCtorEq,↓reduceIte,Na,Nb,Nc,Nk,Nf,Ng,Nh,Za,Zb,Zc,TT,g3,eye_succM i (by omega)]
   refine hK _ _ ?_;clear hK K
   refine ⟨⟨i + 1,hi',by simp only [upd,Nc,↓reduceIte],by simp only [upd,g0,Nc,↓reduceIte],?_⟩,?_⟩
   ·rw [htk]
    intro x hx
    rcases List.mem_append.1 hx with hx | hx
    ·exact hall x hx
    ·rw [List.mem_singleton] at hx
     subst hx
     omega
   ·simp only [g3,upd,↓reduceIte]
    omega
 ·refine wS fun K hK=>?_
  simp only [↓DN,Qa,Qb,Qc,Qd,Qe,Qf,Qg,Qh,reduceCtorEq,↓reduceIte,Na,Nb,Nc,Nk,Nf,Ng,Nh,Za,Zb,Zc,TT,g3,g0,eye_lt_nat,decide_eq_false hi']
  refine hK _ _ ?_;clear hK K
  refine wC fun X Y hX hY=>?_
  simp only [UP,DF,Nc,↓reduceIte,DB]
  refine hY ?_;clear hX hY X Y
  refine awp_exit ?_
  simp only [thenQ,blockQ,if_true]
  refine hK _ _ ?_;clear hK hK2 K2 K
  rw [List.take_of_length_le (by omega)] at hall
  have hof:=hof (by omega) fun b hb=>by have:=hall b hb; omega
  have hor:=hor (by omega) fun b hb=>by have:=hall b hb; omega
  have htx:=htx (by omega)
  generalize ofT texts = R at *
  obtain ⟨l,e⟩:=R
  simp only at hof hor
  refine wS fun K hK=>?_
  simp only [↓DN,Qa,Qb,Qc,Qd,Qe,Qf,Qg,Qh,reduceCtorEq,↓reduceIte,Na,Nb,Nc,Nk,Nf,Ng,Nh,Za,Zb,Zc,TT,g0]
  refine acallk (hof _) ?_
  rintro r s3 ⟨hle3,hr1⟩
  rcases hr1 with ⟨he,rfl⟩ | ⟨rfl,p,b1,b2,gs,gt,ge,rfl,hrep,hgd,hll,hL⟩
  ·simp only [↓DM,pval,DX,Nz,↓DN,Qa,Qb,Qc,Qd,Qe,Qf,Qg,Qh,reduceCtorEq,↓reduceIte,Na,Nb,Nc,Nk,Nf,Ng,Nh,Za,Zb,Zc,TT]
   refine hK _ _ ?_;clear hK K
   refine wS fun K hK=>?_
   simp only [↓DN,Qa,Qb,Qc,Qd,Qe,Qf,Qg,Qh,reduceCtorEq,↓reduceIte,Na,Nb,Nc,Nk,Nf,Ng,Nh,Za,Zb,Zc,TT,g0]
   refine acallk (htx _) ?_
   rintro r s4 ⟨rfl,rfl⟩
   simp only [↓DM,pval,DX,Nz,↓DN,Qa,Qb,Qc,Qd,Qe,Qf,Qg,Qh,reduceCtorEq,↓reduceIte,Na,Nb,Nc,Nk,Nf,Ng,Nh,Za,Zb,Zc,TT]
   refine acallk (hor _) ?_
   rintro r s5 ⟨hle5,hr2⟩
   rcases hr2 with ⟨_,rfl⟩ | ⟨h0,_⟩
   ·simp only [↓DM,pval,DX,Nz,↓DN,Qa,Qb,Qc,Qd,Qe,Qf,Qg,Qh,reduceCtorEq,↓reduceIte,Na,Nb,Nc,Nk,Nf,Ng,Nh,Za,Zb,Zc,TT]
    refine hK _ _ ?_;clear hK K
    refine wK fun K hK=>?_
    refine wS fun K hK=>?_
    simp only [↓DN,Qa,Qb,Qc,Qd,Qe,Qf,Qg,Qh,reduceCtorEq,↓reduceIte,Na,Nb,Nc,Nk,Nf,Ng,Nh,Za,Zb,Zc,TT,int_bne_false rfl,int_bne_true he]
    refine acallk (sameNil_calls _) ?_
    rintro r s6 ⟨rfl,rfl⟩
    simp only [↓DM,pval,DX,Nz,↓DN,Qa,Qb,Qc,Qd,Qe,Qf,Qg,Qh,reduceCtorEq,↓reduceIte,Na,Nb,Nc,Nk,Nf,Ng,Nh,Za,Zb,Zc,TT]
    refine acallk (ledNew_calls _) ?_
    rintro r s7 ⟨p',b1',b2',rfl,_⟩
    simp only [↓DM,pval,DX,Nz,↓DN,Qa,Qb,Qc,Qd,Qe,Qf,Qg,Qh,reduceCtorEq,↓reduceIte,Na,Nb,Nc,Nk,Nf,Ng,Nh,Za,Zb,Zc,TT]
    refine acallk (sameNilP_calls p' _) ?_
    rintro r s8 ⟨rfl,rfl⟩
    simp only [↓DM,pval,DX,Nz,↓DN,Qa,Qb,Qc,Qd,Qe,Qf,Qg,Qh,reduceCtorEq,↓reduceIte,Na,Nb,Nc,Nk,Nf,Ng,Nh,Za,Zb,Zc,TT]
    refine hK _ _ ?_;clear hK K
    refine wC fun X Y hX hY=>?_
    simp only [UP,DF,Nc,↓reduceIte,DB]
    refine hY ?_;clear hX hY X Y
    refine awp_skip ?_
    refine hK _ _ ?_;clear hK K
    refine wK fun K hK=>?_
    refine wS fun K hK=>?_
    simp only [↓DN,Qa,Qb,Qc,Qd,Qe,Qf,Qg,Qh,reduceCtorEq,↓reduceIte,Na,Nb,Nc,Nk,Nf,Ng,Nh,Za,Zb,Zc,TT,int_bne_true he]
    refine hK _ _ ?_;clear hK K
    refine wC fun X Y hX hY=>?_
    simp only [UP,DF,Nc,↓reduceIte,DB]
    refine hX ?_;clear hX hY X Y
    refine wS fun K hK=>?_
    simp only [↓DN,Qa,Qb,Qc,Qd,Qe,Qf,Qg,Qh,reduceCtorEq,↓reduceIte,Na,Nb,Nc,Nk,Nf,Ng,Nh,Za,Zb,Zc,TT]
    refine hK _ _ ?_;clear hK K
    refine awp_ret ?_
    try simp only [thenQ,blockQ]
    simp only [retQ,AEnds,aresL,ares,List.toList_toArray,↓upd_same]; try simp only [UP,DF,Nc,↓reduceIte,DT]
    exact ⟨_,_,AV.weak.refl _,AS.le.refl _,rfl⟩
   ·exact absurd h0 he
  ·simp only [↓DM,pval,DX,Nz,↓DN,Qa,Qb,Qc,Qd,Qe,Qf,Qg,Qh,reduceCtorEq,↓reduceIte,Na,Nb,Nc,Nk,Nf,Ng,Nh,Za,Zb,Zc,TT]
   refine hK _ _ ?_;clear hK K
   refine wS fun K hK=>?_
   simp only [↓DN,Qa,Qb,Qc,Qd,Qe,Qf,Qg,Qh,reduceCtorEq,↓reduceIte,Na,Nb,Nc,Nk,Nf,Ng,Nh,Za,Zb,Zc,TT,g0]
   refine acallk (htx _) ?_
   rintro r s4 ⟨rfl,rfl⟩
   simp only [↓DM,pval,DX,Nz,↓DN,Qa,Qb,Qc,Qd,Qe,Qf,Qg,Qh,reduceCtorEq,↓reduceIte,Na,Nb,Nc,Nk,Nf,Ng,Nh,Za,Zb,Zc,TT]
   refine acallk (hor _) ?_
   rintro r s5 ⟨hle5,hr2⟩
   rcases hr2 with ⟨h0,_⟩ | ⟨_,q,rfl,hq⟩
   ·exact absurd rfl h0
   simp only [↓DM,pval,DX,Nz,↓DN,Qa,Qb,Qc,Qd,Qe,Qf,Qg,Qh,reduceCtorEq,↓reduceIte,Na,Nb,Nc,Nk,Nf,Ng,Nh,Za,Zb,Zc,TT]
   refine hK _ _ ?_;clear hK K
   refine wK fun K hK=>?_
   refine wS fun K hK=>?_
   simp only [↓DN,Qa,Qb,Qc,Qd,Qe,Qf,Qg,Qh,reduceCtorEq,↓reduceIte,Na,Nb,Nc,Nk,Nf,Ng,Nh,Za,Zb,Zc,TT,int_bne_false rfl]
   refine acallk (sameNil_calls _) ?_
   rintro r s6 ⟨rfl,rfl⟩
   simp only [↓DM,pval,DX,Nz,↓DN,Qa,Qb,Qc,Qd,Qe,Qf,Qg,Qh,reduceCtorEq,↓reduceIte,Na,Nb,Nc,Nk,Nf,Ng,Nh,Za,Zb,Zc,TT]
   refine acallk (ledNew_calls _) ?_
   rintro r s7 ⟨p',b1',b2',rfl,hLx⟩
   simp only [↓DM,pval,DX,Nz,↓DN,Qa,Qb,Qc,Qd,Qe,Qf,Qg,Qh,reduceCtorEq,↓reduceIte,Na,Nb,Nc,Nk,Nf,Ng,Nh,Za,Zb,Zc,TT]
   refine acallk (sameNilP_calls p' _) ?_
   rintro r s8 ⟨rfl,rfl⟩
   simp only [↓DM,pval,DX,Nz,↓DN,Qa,Qb,Qc,Qd,Qe,Qf,Qg,Qh,reduceCtorEq,↓reduceIte,Na,Nb,Nc,Nk,Nf,Ng,Nh,Za,Zb,Zc,TT]
   refine hK _ _ ?_;clear hK K
   refine wC fun X Y hX hY=>?_
   simp only [UP,DF,Nc,↓reduceIte,DB]
   refine hY ?_;clear hX hY X Y
   refine awp_skip ?_
   refine hK _ _ ?_;clear hK K
   refine wK fun K hK=>?_
   refine wS fun K hK=>?_
   simp only [↓DN,Qa,Qb,Qc,Qd,Qe,Qf,Qg,Qh,reduceCtorEq,↓reduceIte,Na,Nb,Nc,Nk,Nf,Ng,Nh,Za,Zb,Zc,TT,int_bne_false rfl]
   refine hK _ _ ?_;clear hK K
   refine wC fun X Y hX hY=>?_
   simp only [UP,DF,Nc,↓reduceIte,DB]
   refine hY ?_;clear hX hY X Y
   refine awp_skip ?_
   refine hK _ _ ?_;clear hK K
   have hL8:=ledS_more (ledS_more hL hle5) hLx.le
   have hq8:=hLx.le.objs _ _ hq
   clear hL hq hLx hle3 hle5
   have hl40 : l.length≤40:=by omega
   have hcn : (foldV l).count = l.length:=hrep.count
   have hrow:=fun i (h : i < l.length)=>row_at (c:=Rec.cells) (k:=9) (fun _=>rfl) h
   obtain ⟨XR,hXR⟩ : ∃ XR,XR = rowC Rec.cells l:=⟨_,rfl⟩
   have hrs : recsV l = .sl 9 l.length XR .any:=by rw [hXR]; rfl
   rw [← hXR] at hrow
   refine wS fun K hK=>?_
   simp only [↓DN,Qa,Qb,Qc,Qd,Qe,Qf,Qg,Qh,reduceCtorEq,↓reduceIte,Na,Nb,Nc,Nk,Nf,Ng,Nh,Za,Zb,Zc,TT]
   refine acallk (ledNew_calls _) ?_
   rintro r s9 ⟨pk,c1,c2,rfl,hk⟩
   simp only [↓DM,pval,DX,Nz,↓DN,Qa,Qb,Qc,Qd,Qe,Qf,Qg,Qh,reduceCtorEq,↓reduceIte,Na,Nb,Nc,Nk,Nf,Ng,Nh,Za,Zb,Zc,TT]
   refine hK _ _ ?_;clear hK K
   refine wK fun K hK=>?_
   refine wS fun K hK=>?_
   simp only [↓DN,Qa,Qb,Qc,Qd,Qe,Qf,Qg,Qh,reduceCtorEq,↓reduceIte,Na,Nb,Nc,Nk,Nf,Ng,Nh,Za,Zb,Zc,TT]
   refine hK _ _ ?_;clear hK K
   refine awp_block ?_
   refine awp_loop (fun E s'=>∃ (i : Nat) (ks : List GEnt) (kt ke : Nat),i≤l.length∧E 9 = .v (.int .i64 i)∧E 8 = .ptr pk 0∧E 6 = .ptr q 0∧E 4 = .ptr p 0∧Rep (foldV (l.take i)) (l.take i)∧LedS s8 s' pk (foldV (l.take i)) ks kt ke c1 c2)
    (fun E _=>match E 9 with | .v (.int _ i)=>l.length - i.toNat | _=>0) ?_ ?_
   ·exact ⟨0,[],0,0,Nat.zero_le _,by simp only [upd,↓reduceIte]; rfl,by simp only [upd,Nc,↓reduceIte],by simp only [upd,Nc,↓reduceIte],by simp only [upd,Nc,↓reduceIte],rep_new,hk⟩
   clear hk
   rintro E2 s10 ⟨i,ks,kt,ke,hi,g9,g8,g6,g4,hrk,hk⟩ -
   have hqk:=hk.le.objs _ _ hq8
   rw [hrs] at hqk
   have hLk:=ledS_more hL8 hk.le
   refine wK fun K2 hK2=>?_
   by_cases hi' : i < l.length
   ·refine wS fun K hK=>?_
    simp only [↓DN,Qa,Qb,Qc,Qd,Qe,Qf,Qg,Qh,reduceCtorEq,↓reduceIte,Na,Nb,Nc,Nk,Nf,Ng,Nh,Za,Zb,Zc,TT,g9,g6,hqk,eye_lt_nat,decide_eq_true hi']
    refine hK _ _ ?_;clear hK K
    refine wC fun X Y hX hY=>?_
    simp only [UP,DF,Nc,↓reduceIte,DB]
    refine hX ?_;clear hX hY X Y
    refine awp_skip ?_
    refine hK2 _ _ ?_;clear hK2 K2
    refine wK fun K3 hK3=>?_
    refine awp_block ?_
    have hge : (0 : Int)≤((i : Nat) : Int):=by omega
    have hat':=hrow i hi'
    have hgi:=hgd i hi'
    have htl : (l.take i).length = i:=by simp; omega
    have htk : l.take (i + 1) = l.take i ++ [l[i]]:=List.take_succ_eq_append_getElem hi'
    generalize l[i] = r at *
    have hkc : (foldV (l.take i)).count = (i : Nat):=by rw [hrk.count,htl]
    have hin:=hrk.rises.inv (by omega)
    have hc0:=hrk.rises.2.2.2
    have hgl : ks.length≤2 ^ 40:=by
     have h1:=totE_geN hrk.rises
     have h2:=hrk.rises.2.2.1
     have h3 : (foldV (l.take i)).gs.length = ks.length:=by rw [hk.val,List.length_map]
     omega
    have hadd:=ledAdd_calls (Γ:=Γ) hk hin ⟨by omega,by omega⟩ hgl r
    rw [hrk.check r,hgi,← foldV_snoc,← htk] at hadd
    have hst:=rep_step hrk r
    unfold addR at hst
    rw [if_pos hgi,← foldV_snoc,← htk] at hst
    have ho1:=hk.obj
    have ho2:=hLk.obj
    unfold ledC at ho1 ho2
    have hsd:=sameDiff_calls (Γ:=Γ) ho1 ho2 (by omega)
    unfold Rec.cells at hat' hadd
    refine wS fun K hK=>?_
    simp only [↓DN,Qa,Qb,Qc,Qd,Qe,Qf,Qg,Qh,reduceCtorEq,↓reduceIte,Na,Nb,Nc,Nk,Nf,Ng,Nh,Za,Zb,Zc,TT,g8,g4]
    refine acallk hsd ?_
    rintro r s11 ⟨rfl,rfl⟩
    simp only [↓DM,pval,DX,Nz,↓DN,Qa,Qb,Qc,Qd,Qe,Qf,Qg,Qh,reduceCtorEq,↓reduceIte,Na,Nb,Nc,Nk,Nf,Ng,Nh,Za,Zb,Zc,TT,g8,g6,hqk,g9,hge,eye_lt_nat,hi',hat']
    refine acallk hadd ?_
    rintro v s12 ⟨rfl,ks',kt',ke',hk'⟩
    simp only [↓DM,pval,DX,Nz,↓DN,Qa,Qb,Qc,Qd,Qe,Qf,Qg,Qh,reduceCtorEq,↓reduceIte,Na,Nb,Nc,Nk,Nf,Ng,Nh,Za,Zb,Zc,TT,show ((0 : Int) != 0) = false from rfl]
    refine hK _ _ ?_;clear hK K
    refine wC fun X Y hX hY=>?_
    simp only [UP,DF,Nc,↓reduceIte,DB]
    refine hY ?_;clear hX hY X Y
    refine awp_skip ?_
    simp only [blockQ,thenQ]
    refine hK3 _ _ ?_;clear hK3 K3
    refine wE fun K hK=>?_
    simp only [↓DN,Qa,Qb,Qc,Qd,Qe,Qf,Qg,Qh,reduceCtorEq,↓reduceIte,Na,Nb,Nc,Nk,Nf,Ng,Nh,Za,Zb,Zc,TT,g9,eye_succM i (by omega)]
    refine hK _ _ ?_;clear hK K
    refine ⟨⟨i + 1,ks',kt',ke',hi',by simp only [upd,Nc,↓reduceIte],by simp only [upd,g8,Nc,↓reduceIte],by simp only [upd,g6,Nc,↓reduceIte],by simp only [upd,g4,Nc,↓reduceIte],hst,hk'⟩,?_⟩
    simp only [g9,upd,↓reduceIte]
    omega
   ·refine wS fun K hK=>?_
    simp only [↓DN,Qa,Qb,Qc,Qd,Qe,Qf,Qg,Qh,reduceCtorEq,↓reduceIte,Na,Nb,Nc,Nk,Nf,Ng,Nh,Za,Zb,Zc,TT,g9,g6,hqk,eye_lt_nat,decide_eq_false hi']
    refine hK _ _ ?_;clear hK K
    refine wC fun X Y hX hY=>?_
    simp only [UP,DF,Nc,↓reduceIte,DB]
    refine hY ?_;clear hX hY X Y
    refine awp_exit ?_
    simp only [thenQ,blockQ,if_true]
    refine hK _ _ ?_;clear hK hK2 K2 K
    rw [List.take_of_length_le (by omega)] at hk hrk
    have n1 : c1≠b1:=by
     rintro rfl
     have:=hL8.m1
     rw [hk.b10] at this
     cases this
    have n2 : c2≠b2:=by
     rintro rfl
     have:=hL8.m2
     rw [hk.b20] at this
     cases this
    have ht:=tells_calls (Γ:=Γ) hLk hrep (hk.le.objs _ _ hq8) (by omega) []
    have hs1:=sameEq_calls (Γ:=Γ) hk hLk n1.symm n2.symm hrep.rises (by omega)
    have hs2:=sameEq_calls (Γ:=Γ) hLk hk n1 n2 hrep.rises (by omega)
    refine wS fun K hK=>?_
    simp only [↓DN,Qa,Qb,Qc,Qd,Qe,Qf,Qg,Qh,reduceCtorEq,↓reduceIte,Na,Nb,Nc,Nk,Nf,Ng,Nh,Za,Zb,Zc,TT,g4,g6]
    refine acallk ht ?_
    rintro r s11 ⟨rfl,rfl⟩
    simp only [↓DM,pval,DX,Nz,↓DN,Qa,Qb,Qc,Qd,Qe,Qf,Qg,Qh,reduceCtorEq,↓reduceIte,Na,Nb,Nc,Nk,Nf,Ng,Nh,Za,Zb,Zc,TT,g4,g6,g8]
    refine acallk hs1 ?_
    rintro r s12 ⟨rfl,rfl⟩
    simp only [↓DM,pval,DX,Nz,↓DN,Qa,Qb,Qc,Qd,Qe,Qf,Qg,Qh,reduceCtorEq,↓reduceIte,Na,Nb,Nc,Nk,Nf,Ng,Nh,Za,Zb,Zc,TT,g4,g6,g8]
    refine acallk hs2 ?_
    rintro r s13 ⟨rfl,rfl⟩
    simp only [↓DM,pval,DX,Nz,↓DN,Qa,Qb,Qc,Qd,Qe,Qf,Qg,Qh,reduceCtorEq,↓reduceIte,Na,Nb,Nc,Nk,Nf,Ng,Nh,Za,Zb,Zc,TT]
    refine hK _ _ ?_;clear hK K
    refine awp_ret ?_
    try simp only [thenQ,blockQ]
    simp only [retQ,AEnds,aresL,ares,List.toList_toArray,↓upd_same]; try simp only [UP,DF,Nc,↓reduceIte,DT]
    exact ⟨_,_,AV.weak.refl _,AS.le.refl _,rfl⟩
end Go.Proofs.Ytfbbckndpkmfcaa
