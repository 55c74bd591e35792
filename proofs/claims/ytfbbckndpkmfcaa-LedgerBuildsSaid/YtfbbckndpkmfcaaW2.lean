/- Contracts of the program's functions, each walked once; the conditions stand in each theorem. -/
import Derived.Test.YtfbbckndpkmfcaaAMp6
import Derived.Test.YtfbbckndpkmfcaaW1
import Derived.Test.YtfbbckndpkmfcaaAMp4
import Derived.Test.YtfbbckndpkmfcaaAMp3
set_option linter.unusedSimpArgs false
set_option linter.unusedVariables false
open Nat renaming reduceLT → Na, reduceLeDiff → Nb, reduceEqDiff → Nc, reduceAdd → Nk, reduceMul → Nf, reducePow → Ng, reduceSub → Nh, reduceBEq → Nz
open Int renaming reduceLT → Za, reduceLE → Zb, reduceToNat → Zc
open Go.AM renaming ashift → Qa, aconv → Qb, aindexAddr → Qc, aindex → Qd, aslice → Qe, abuiltin → Qf, awp_reg_seq → wS, awp_reg_end → wE, awp_seq_k → wK, awp_cond_k → wC
open Go.AM.AV renaming cells → Qg, one → Qh
set_option maxRecDepth 100000
set_option maxHeartbeats 8000000
set_option autoImplicit false
namespace Go.Proofs.Ytfbbckndpkmfcaa
open Go Go.AM Go.Proofs
variable {Γ : Nat→List AV}
theorem open_calls (l : List UInt8) (s : AS) (hl : l.length≤2 ^ 45) : ACalls Try.prog Γ 47 [bytesV l .any] s (fun r s'=>∃ p,r = .ptr p 0∧EyeS s s' p (l,0)):=by
 refine acalls_body Try.func47 rfl Try.ntmps47 Try.results47 (by simp) ?_
 refine wS fun K hK=>?_
 simp only [↓DN,Qa,Qb,Qc,Qd,Qe,Qf,Qg,Qh,reduceCtorEq,↓reduceIte,Na,Nb,Nc,Nk,Nf,Ng,Nh,Za,Zb,Zc,TT]
 refine hK _ _ ?_;clear hK K
 refine wS fun K hK=>?_
 simp only [↓DN,Qa,Qb,Qc,Qd,Qe,Qf,Qg,Qh,reduceCtorEq,↓reduceIte,Na,Nb,Nc,Nk,Nf,Ng,Nh,Za,Zb,Zc,TT]
 refine acallk (cloneB_calls l s hl) ?_
 rintro r s' ⟨rfl,rfl⟩
 unfold bytesV
 simp only [↓DM,pval,DX,Nz,↓DN,Qa,Qb,Qc,Qd,Qe,Qf,Qg,Qh,reduceCtorEq,↓reduceIte,Na,Nb,Nc,Nk,Nf,Ng,Nh,Za,Zb,Zc,TT]
 intro p hp
 refine hK _ _ ?_
 refine awp_ret ?_
 simp only [retQ,AEnds,aresL,ares,List.toList_toArray,↓upd_same]; try simp only [UP,DF,Nc,↓reduceIte,DT]
 exact ⟨_,_,AV.weak.refl _,AS.le.refl _,p,rfl,AS.le_set (AS.le.refl _) hp _,hp,AS.set_objs_same _ _ _⟩
theorem next_calls (s0 s : AS) (p : Nat) (st : EyeSt) (n : Int) (h : EyeS s0 s p st) :
  ACalls Try.prog Γ 66 [.ptr p 0,.v (.int .i64 n)] s (fun r s'=>r = bytesV (eyeNext n st).1 .any∧EyeS s0 s' p (eyeNext n st).2):=by
 refine acalls_body Try.func66 rfl Try.ntmps66 Try.results66 (by simp) ?_
 obtain ⟨l,er⟩:=st
 have hx:=h.obj
 simp only [bytesV] at hx
 refine wS fun K hK=>?_
 simp only [↓DN,Qa,Qb,Qc,Qd,Qe,Qf,Qg,Qh,reduceCtorEq,↓reduceIte,Na,Nb,Nc,Nk,Nf,Ng,Nh,Za,Zb,Zc,TT]
 refine hK _ _ ?_;clear hK K
 refine wK fun K hK=>?_
 refine awp_block ?_
 by_cases h0 : er = 0
 ·subst h0
  refine wS fun K hK=>?_
  simp only [↓DN,Qa,Qb,Qc,Qd,Qe,Qf,Qg,Qh,reduceCtorEq,↓reduceIte,Na,Nb,Nc,Nk,Nf,Ng,Nh,Za,Zb,Zc,TT,hx,i64_ne_false 0 rfl]
  refine hK _ _ ?_;clear hK K
  refine wC fun X Y hX hY=>?_
  simp only [UP,DF,Nc,↓reduceIte,DB]
  refine hY ?_;clear hX hY X Y
  by_cases h1 : n < 0
  ·refine wS fun K hK=>?_
   simp only [↓DN,Qa,Qb,Qc,Qd,Qe,Qf,Qg,Qh,reduceCtorEq,↓reduceIte,Na,Nb,Nc,Nk,Nf,Ng,Nh,Za,Zb,Zc,TT,decide_eq_true h1]
   refine hK _ _ ?_;clear hK K
   refine wC fun X Y hX hY=>?_
   simp only [UP,DF,Nc,↓reduceIte,DB]
   refine hX ?_;clear hX hY X Y
   refine wS fun K hK=>?_
   simp only [↓DN,Qa,Qb,Qc,Qd,Qe,Qf,Qg,Qh,reduceCtorEq,↓reduceIte,Na,Nb,Nc,Nk,Nf,Ng,Nh,Za,Zb,Zc,TT,hx]
   refine hK _ _ ?_;clear hK K
   refine wS fun K hK=>?_
   simp only [↓DN,Qa,Qb,Qc,Qd,Qe,Qf,Qg,Qh,reduceCtorEq,↓reduceIte,Na,Nb,Nc,Nk,Nf,Ng,Nh,Za,Zb,Zc,TT]
   refine hK _ _ ?_;clear hK K
   refine awp_ret ?_
   simp only [retQ,AEnds,aresL,ares,List.toList_toArray,↓upd_same]; try simp only [UP,DF,Nc,↓reduceIte,DT]
   rw [eyeNext_neg h1]
   exact ⟨_,_,AV.weak_nil,AS.le.refl _,rfl,h.put⟩
  ·refine wS fun K hK=>?_
   simp only [↓DN,Qa,Qb,Qc,Qd,Qe,Qf,Qg,Qh,reduceCtorEq,↓reduceIte,Na,Nb,Nc,Nk,Nf,Ng,Nh,Za,Zb,Zc,TT,decide_eq_false h1]
   refine hK _ _ ?_;clear hK K
   refine wC fun X Y hX hY=>?_
   simp only [UP,DF,Nc,↓reduceIte,DB]
   refine hY ?_;clear hX hY X Y
   by_cases h2 : (l.length : Int) < n
   ·refine wS fun K hK=>?_
    simp only [↓DN,Qa,Qb,Qc,Qd,Qe,Qf,Qg,Qh,reduceCtorEq,↓reduceIte,Na,Nb,Nc,Nk,Nf,Ng,Nh,Za,Zb,Zc,TT,hx,decide_eq_true h2]
    refine hK _ _ ?_;clear hK K
    refine wC fun X Y hX hY=>?_
    simp only [UP,DF,Nc,↓reduceIte,DB]
    refine hX ?_;clear hX hY X Y
    refine wS fun K hK=>?_
    simp only [↓DN,Qa,Qb,Qc,Qd,Qe,Qf,Qg,Qh,reduceCtorEq,↓reduceIte,Na,Nb,Nc,Nk,Nf,Ng,Nh,Za,Zb,Zc,TT,hx]
    refine hK _ _ ?_;clear hK K
    refine wS fun K hK=>?_
    simp only [↓DN,Qa,Qb,Qc,Qd,Qe,Qf,Qg,Qh,reduceCtorEq,↓reduceIte,Na,Nb,Nc,Nk,Nf,Ng,Nh,Za,Zb,Zc,TT]
    refine hK _ _ ?_;clear hK K
    refine awp_ret ?_
    simp only [retQ,AEnds,aresL,ares,List.toList_toArray,↓upd_same]; try simp only [UP,DF,Nc,↓reduceIte,DT]
    rw [eyeNext_short h1 h2]
    exact ⟨_,_,AV.weak_nil,AS.le.refl _,rfl,h.put⟩
   ·obtain ⟨m,rfl⟩:=Int.eq_ofNat_of_zero_le (Int.not_lt.1 h1)
    have hml : m≤l.length:=by omega
    have hm0 : (0 : Int)≤(m : Int):=by omega
    have hml' : (m : Int)≤(l.length : Int):=by omega
    refine wS fun K hK=>?_
    simp only [↓DN,Qa,Qb,Qc,Qd,Qe,Qf,Qg,Qh,reduceCtorEq,↓reduceIte,Na,Nb,Nc,Nk,Nf,Ng,Nh,Za,Zb,Zc,TT,hx,decide_eq_false h2]
    refine hK _ _ ?_;clear hK K
    refine wC fun X Y hX hY=>?_
    simp only [UP,DF,Nc,↓reduceIte,DB]
    refine hY ?_;clear hX hY X Y
    refine awp_skip ?_
    simp only [thenQ,blockQ,if_true,if_false]
    refine hK _ _ ?_;clear hK K
    refine wS fun K hK=>?_
    simp only [↓DN,Qa,Qb,Qc,Qd,Qe,Qf,Qg,Qh,reduceCtorEq,↓reduceIte,Na,Nb,Nc,Nk,Nf,Ng,Nh,Za,Zb,Zc,TT,hx,hm0,hml',Int.le_refl]
    refine hK _ _ ?_;clear hK K
    refine wS fun K hK=>?_
    simp only [↓DN,Qa,Qb,Qc,Qd,Qe,Qf,Qg,Qh,reduceCtorEq,↓reduceIte,Na,Nb,Nc,Nk,Nf,Ng,Nh,Za,Zb,Zc,TT,hx,hm0,hml',Int.le_refl]
    refine hK _ _ ?_;clear hK K
    refine wS fun K hK=>?_
    simp only [↓DN,Qa,Qb,Qc,Qd,Qe,Qf,Qg,Qh,reduceCtorEq,↓reduceIte,Na,Nb,Nc,Nk,Nf,Ng,Nh,Za,Zb,Zc,TT]
    refine hK _ _ ?_;clear hK K
    refine awp_ret ?_
    simp only [retQ,AEnds,aresL,ares,List.toList_toArray,↓upd_same]; try simp only [UP,DF,Nc,↓reduceIte,DT]
    rw [eyeNext_ok hml]
    refine ⟨_,_,AV.weak.refl _,AS.le.refl _,bytes_of ?_ rfl,h.put' ?_⟩
    ·simp only [List.length_take]; omega
    ·rw [bytes_of (m:=l.drop m)]
     ·simp only [List.length_drop]
     ·rw [List.take_length]
 ·refine wS fun K hK=>?_
  simp only [↓DN,Qa,Qb,Qc,Qd,Qe,Qf,Qg,Qh,reduceCtorEq,↓reduceIte,Na,Nb,Nc,Nk,Nf,Ng,Nh,Za,Zb,Zc,TT,hx,i64_ne_true er h0]
  refine hK _ _ ?_;clear hK K
  refine wC fun X Y hX hY=>?_
  simp only [UP,DF,Nc,↓reduceIte,DB]
  refine hX ?_;clear hX hY X Y
  refine wS fun K hK=>?_
  simp only [↓DN,Qa,Qb,Qc,Qd,Qe,Qf,Qg,Qh,reduceCtorEq,↓reduceIte,Na,Nb,Nc,Nk,Nf,Ng,Nh,Za,Zb,Zc,TT]
  refine hK _ _ ?_;clear hK K
  refine awp_ret ?_
  simp only [retQ,AEnds,aresL,ares,List.toList_toArray,↓upd_same]; try simp only [UP,DF,Nc,↓reduceIte,DT]
  rw [eyeNext_err h0]
  exact ⟨_,_,AV.weak_nil,AS.le.refl _,rfl,h⟩
end Go.Proofs.Ytfbbckndpkmfcaa
namespace Go.Proofs.Ytfbbckndpkmfcaa
open Go Go.AM Go.Proofs
variable {Γ : Nat→List AV}
theorem eyeNumber_calls (s0 s : AS) (p : Nat) (st : EyeSt) (size : Nat) (hs : size≤8) (h : EyeS s0 s p st) :
  ACalls Try.prog Γ 60 [.ptr p 0,.v (.int .i64 size)] s (fun r s'=>r = .v (.int .u64 (eyeNum size st).1)∧EyeS s0 s' p (eyeNum size st).2):=by
 refine acalls_body Try.func60 rfl Try.ntmps60 Try.results60 (by simp) ?_
 obtain ⟨out,hout⟩ : ∃ out,out = (eyeNext size st).1:=⟨_,rfl⟩
 have hlen : out.length≤8:=by rw [hout]; exact Nat.le_trans (eyeNext_le _ _) hs
 refine wS fun K hK=>?_
 simp only [↓DN,Qa,Qb,Qc,Qd,Qe,Qf,Qg,Qh,reduceCtorEq,↓reduceIte,Na,Nb,Nc,Nk,Nf,Ng,Nh,Za,Zb,Zc,TT]
 refine hK _ _ ?_;clear hK K
 refine wS fun K hK=>?_
 simp only [↓DN,Qa,Qb,Qc,Qd,Qe,Qf,Qg,Qh,reduceCtorEq,↓reduceIte,Na,Nb,Nc,Nk,Nf,Ng,Nh,Za,Zb,Zc,TT]
 refine hK _ _ ?_;clear hK K
 refine wK fun K hK=>?_
 refine wS fun K hK=>?_
 simp only [↓DN,Qa,Qb,Qc,Qd,Qe,Qf,Qg,Qh,reduceCtorEq,↓reduceIte,Na,Nb,Nc,Nk,Nf,Ng,Nh,Za,Zb,Zc,TT]
 refine acallk (next_calls s0 s p st size h) ?_
 rintro r s2 ⟨rfl,he⟩
 rw [← hout]
 unfold bytesV
 simp only [↓DM,pval,DX,Nz,↓DN,Qa,Qb,Qc,Qd,Qe,Qf,Qg,Qh,reduceCtorEq,↓reduceIte,Na,Nb,Nc,Nk,Nf,Ng,Nh,Za,Zb,Zc,TT]
 refine hK _ _ ?_;clear hK K
 refine awp_block ?_
 refine awp_loop (fun E s3=>∃ j y : Nat,j≤out.length∧E 10 = .sl 1 out.length (out.map byteV) .any∧E 11 = .v (.int .i64 out.length)∧E 12 = .v (.int .i64 j)∧E 5 = .v (.int .u64 y)∧y = beNat (out.take j)∧s3 = s2)
  (fun E _=>match E 12 with | .v (.int _ j)=>out.length - j.toNat | _=>0) ?_ ?_
 ·exact ⟨0,0,Nat.zero_le _,by simp only [upd,Nc,↓reduceIte],by simp only [upd,Nc,↓reduceIte],by simp only [upd,↓reduceIte]; rfl,by simp only [upd,Nc,↓reduceIte]; rfl,rfl,rfl⟩
 ·rintro E3 s3 ⟨j,y,hj,f10,f11,f12,f5,hy,rfl⟩ -
  by_cases hj' : j < out.length
  ·have hy7 : y < 2 ^ 56:=by
    rw [hy]
    refine Nat.lt_of_lt_of_le (beNat_take_lt out j) ?_
    rw [show (2 : Nat) ^ 56 = 256 ^ 7 from by decide]
    exact Nat.pow_le_pow_right (by decide) (by omega)
   have hy2 : beNat (out.take (j + 1)) = y * 256 + out[j].toNat:=by rw [List.take_succ_eq_append_getElem hj',beNat_snoc,← hy]
   have hgj : (0 : Int)≤(j : Int):=by omega
   have hat:=eat_byte hj'
   generalize hcc : out[j] = c at *
   refine wS fun K hK=>?_
   simp only [↓DN,Qa,Qb,Qc,Qd,Qe,Qf,Qg,Qh,reduceCtorEq,↓reduceIte,Na,Nb,Nc,Nk,Nf,Ng,Nh,Za,Zb,Zc,TT,f11,f12,eye_lt_nat,decide_eq_true hj']
   refine hK _ _ ?_;clear hK K
   refine wK fun K5 hK5=>?_
   refine wC fun X Y hX hY=>?_
   simp only [UP,DF,Nc,↓reduceIte,DB]
   refine hX ?_;clear hX hY X Y
   refine awp_skip ?_
   refine hK5 _ _ ?_;clear hK5 K5
   refine wK fun K6 hK6=>?_
   refine awp_block ?_
   refine wS fun K hK=>?_
   simp only [↓DN,Qa,Qb,Qc,Qd,Qe,Qf,Qg,Qh,reduceCtorEq,↓reduceIte,Na,Nb,Nc,Nk,Nf,Ng,Nh,Za,Zb,Zc,TT,f10,f12,eye_lt_nat,hj',hgj,hat,byteV]
   refine hK _ _ ?_;clear hK K
   refine wE fun K hK=>?_
   simp only [↓DN,Qa,Qb,Qc,Qd,Qe,Qf,Qg,Qh,reduceCtorEq,↓reduceIte,Na,Nb,Nc,Nk,Nf,Ng,Nh,Za,Zb,Zc,TT,f5,beNat_step y c hy7]
   refine hK _ _ ?_;clear hK K
   simp only [blockQ,thenQ,if_true,if_false]
   refine hK6 _ _ ?_;clear hK6 K6
   refine wE fun K hK=>?_
   simp only [↓DN,Qa,Qb,Qc,Qd,Qe,Qf,Qg,Qh,reduceCtorEq,↓reduceIte,Na,Nb,Nc,Nk,Nf,Ng,Nh,Za,Zb,Zc,TT,f12,eye_succ j (by omega)]
   refine hK _ _ ?_;clear hK K
   refine ⟨⟨j + 1,y * 256 + c.toNat,by omega,by simp only [upd,f10,Nc,↓reduceIte],by simp only [upd,f11,Nc,↓reduceIte],by simp only [upd,↓reduceIte],by simp only [upd,Nc,↓reduceIte],hy2.symm,rfl⟩,?_⟩
   simp only [f12,upd,↓reduceIte]
   omega
  ·refine wS fun K hK=>?_
   simp only [↓DN,Qa,Qb,Qc,Qd,Qe,Qf,Qg,Qh,reduceCtorEq,↓reduceIte,Na,Nb,Nc,Nk,Nf,Ng,Nh,Za,Zb,Zc,TT,f11,f12,eye_lt_nat,decide_eq_false hj']
   refine hK _ _ ?_;clear hK K
   refine wK fun K5 hK5=>?_
   refine wC fun X Y hX hY=>?_
   simp only [UP,DF,Nc,↓reduceIte,DB]
   refine hY ?_;clear hX hY X Y
   refine awp_exit ?_
   simp only [thenQ,blockQ,if_true]
   refine hK _ _ ?_;clear hK hK5 K K5
   refine wS fun K hK=>?_
   simp only [↓DN,Qa,Qb,Qc,Qd,Qe,Qf,Qg,Qh,reduceCtorEq,↓reduceIte,Na,Nb,Nc,Nk,Nf,Ng,Nh,Za,Zb,Zc,TT,f5]
   refine hK _ _ ?_;clear hK K
   refine awp_ret ?_
   simp only [retQ,AEnds,aresL,ares,List.toList_toArray,↓upd_same]; try simp only [UP,DF,Nc,↓reduceIte,DT]
   refine ⟨_,_,AV.weak.refl _,AS.le.refl _,?_,he⟩
   rw [hy,List.take_of_length_le (by omega),hout]
   rfl
end Go.Proofs.Ytfbbckndpkmfcaa
namespace Go.Proofs.Ytfbbckndpkmfcaa
open Go Go.AM Go.Proofs
variable {Γ : Nat→List AV}
theorem eyeRaw_calls (s0 s : AS) (p : Nat) (st : EyeSt) (n : Int) (hl : st.1.length≤2 ^ 45) (h : EyeS s0 s p st) :
  ACalls Try.prog Γ 67 [.ptr p 0,.v (.int .i64 n)] s (fun r s'=>r = bytesV (eyeNext n st).1 .any∧EyeS s0 s' p (eyeNext n st).2):=by
 refine acalls_body Try.func67 rfl Try.ntmps67 Try.results67 (by simp) ?_
 refine wS fun K hK=>?_
 simp only [↓DN,Qa,Qb,Qc,Qd,Qe,Qf,Qg,Qh,reduceCtorEq,↓reduceIte,Na,Nb,Nc,Nk,Nf,Ng,Nh,Za,Zb,Zc,TT]
 refine hK _ _ ?_;clear hK K
 refine wS fun K hK=>?_
 simp only [↓DN,Qa,Qb,Qc,Qd,Qe,Qf,Qg,Qh,reduceCtorEq,↓reduceIte,Na,Nb,Nc,Nk,Nf,Ng,Nh,Za,Zb,Zc,TT]
 refine acallk (next_calls s0 s p st n h) ?_
 rintro r s' ⟨rfl,he⟩
 simp only [↓DM,pval,DX,Nz,↓DN,Qa,Qb,Qc,Qd,Qe,Qf,Qg,Qh,reduceCtorEq,↓reduceIte,Na,Nb,Nc,Nk,Nf,Ng,Nh,Za,Zb,Zc,TT]
 refine acallk (cloneB_calls _ s' (by have:=(eyeNext_len n st).1; omega)) ?_
 rintro r' s'' ⟨rfl,rfl⟩
 simp only [↓DM,pval,DX,Nz,↓DN,Qa,Qb,Qc,Qd,Qe,Qf,Qg,Qh,reduceCtorEq,↓reduceIte,Na,Nb,Nc,Nk,Nf,Ng,Nh,Za,Zb,Zc,TT]
 refine hK _ _ ?_;clear hK K
 refine awp_ret ?_
 simp only [retQ,AEnds,aresL,ares,List.toList_toArray,↓upd_same]; try simp only [UP,DF,Nc,↓reduceIte,DT]
 exact ⟨_,_,AV.weak.refl _,AS.le.refl _,rfl,he⟩
theorem eyeU_conv (k : Nat) (hk : k≤7) (st : EyeSt) : iconv .i64 ((eyeNum k st).1 : Int) = ((eyeNum k st).1 : Int):=by
 have:=eyeNum_lt k st
 have h2 : 256 ^ k≤256 ^ 7:=Nat.pow_le_pow_right (by decide) hk
 have h3 : (256 : Nat) ^ 7 = 72057594037927936:=by decide
 exact iconv_i64 (by omega)
theorem eyeU8_calls (s0 s : AS) (p : Nat) (st : EyeSt) (h : EyeS s0 s p st) :
  ACalls Try.prog Γ 48 [.ptr p 0] s (fun r s'=>r = .v (.int .i64 (eyeNum 1 st).1)∧EyeS s0 s' p (eyeNum 1 st).2):=by
 refine acalls_body Try.func48 rfl Try.ntmps48 Try.results48 (by simp) ?_
 refine wS fun K hK=>?_
 simp only [↓DN,Qa,Qb,Qc,Qd,Qe,Qf,Qg,Qh,reduceCtorEq,↓reduceIte,Na,Nb,Nc,Nk,Nf,Ng,Nh,Za,Zb,Zc,TT]
 refine hK _ _ ?_;clear hK K
 refine wS fun K hK=>?_
 simp only [↓DN,Qa,Qb,Qc,Qd,Qe,Qf,Qg,Qh,reduceCtorEq,↓reduceIte,Na,Nb,Nc,Nk,Nf,Ng,Nh,Za,Zb,Zc,TT]
 refine acallk (eyeNumber_calls s0 s p st 1 (by omega) h) ?_
 rintro r s' ⟨rfl,he⟩
 simp only [↓DM,pval,DX,Nz,↓DN,Qa,Qb,Qc,Qd,Qe,Qf,Qg,Qh,reduceCtorEq,↓reduceIte,Na,Nb,Nc,Nk,Nf,Ng,Nh,Za,Zb,Zc,TT,eyeU_conv 1 (by omega) st]
 refine hK _ _ ?_;clear hK K
 refine awp_ret ?_
 simp only [retQ,AEnds,aresL,ares,List.toList_toArray,↓upd_same]; try simp only [UP,DF,Nc,↓reduceIte,DT]
 exact ⟨_,_,AV.weak.refl _,AS.le.refl _,rfl,he⟩
theorem eyeU64_calls (s0 s : AS) (p : Nat) (st : EyeSt) (h : EyeS s0 s p st) :
  ACalls Try.prog Γ 50 [.ptr p 0] s (fun r s'=>r = .v (.int .u64 (eyeNum 8 st).1)∧EyeS s0 s' p (eyeNum 8 st).2):=by
 refine acalls_body Try.func50 rfl Try.ntmps50 Try.results50 (by simp) ?_
 refine wS fun K hK=>?_
 simp only [↓DN,Qa,Qb,Qc,Qd,Qe,Qf,Qg,Qh,reduceCtorEq,↓reduceIte,Na,Nb,Nc,Nk,Nf,Ng,Nh,Za,Zb,Zc,TT]
 refine hK _ _ ?_;clear hK K
 refine wS fun K hK=>?_
 simp only [↓DN,Qa,Qb,Qc,Qd,Qe,Qf,Qg,Qh,reduceCtorEq,↓reduceIte,Na,Nb,Nc,Nk,Nf,Ng,Nh,Za,Zb,Zc,TT]
 refine acallk (eyeNumber_calls s0 s p st 8 (by omega) h) ?_
 rintro r s' ⟨rfl,he⟩
 simp only [↓DM,pval,DX,Nz,↓DN,Qa,Qb,Qc,Qd,Qe,Qf,Qg,Qh,reduceCtorEq,↓reduceIte,Na,Nb,Nc,Nk,Nf,Ng,Nh,Za,Zb,Zc,TT]
 refine hK _ _ ?_;clear hK K
 refine awp_ret ?_
 simp only [retQ,AEnds,aresL,ares,List.toList_toArray,↓upd_same]; try simp only [UP,DF,Nc,↓reduceIte,DT]
 exact ⟨_,_,AV.weak.refl _,AS.le.refl _,rfl,he⟩
theorem eyeText_calls (s0 s : AS) (p : Nat) (st : EyeSt) (k : Nat) (most : Int) (hk : k≤7) (hl : st.1.length≤2 ^ 45) (h : EyeS s0 s p st) :
  ACalls Try.prog Γ 61 [.ptr p 0,.v (.int .i64 k),.v (.int .i64 most)] s (fun r s'=>r = bytesV (eyeText k most st).1 .any∧EyeS s0 s' p (eyeText k most st).2):=by
 refine acalls_body Try.func61 rfl Try.ntmps61 Try.results61 (by simp) ?_
 have hx:=h.obj
 simp only [bytesV] at hx
 refine wS fun K hK=>?_
 simp only [↓DN,Qa,Qb,Qc,Qd,Qe,Qf,Qg,Qh,reduceCtorEq,↓reduceIte,Na,Nb,Nc,Nk,Nf,Ng,Nh,Za,Zb,Zc,TT]
 refine hK _ _ ?_;clear hK K
 refine wS fun K hK=>?_
 simp only [↓DN,Qa,Qb,Qc,Qd,Qe,Qf,Qg,Qh,reduceCtorEq,↓reduceIte,Na,Nb,Nc,Nk,Nf,Ng,Nh,Za,Zb,Zc,TT,hx]
 refine hK _ _ ?_;clear hK K
 refine wS fun K hK=>?_
 simp only [↓DN,Qa,Qb,Qc,Qd,Qe,Qf,Qg,Qh,reduceCtorEq,↓reduceIte,Na,Nb,Nc,Nk,Nf,Ng,Nh,Za,Zb,Zc,TT]
 refine acallk (eyeNumber_calls s0 s p st k (by omega) h) ?_
 rintro r s' ⟨rfl,he⟩
 simp only [↓DM,pval,DX,Nz,↓DN,Qa,Qb,Qc,Qd,Qe,Qf,Qg,Qh,reduceCtorEq,↓reduceIte,Na,Nb,Nc,Nk,Nf,Ng,Nh,Za,Zb,Zc,TT,eyeU_conv k hk st]
 refine hK _ _ ?_;clear hK K
 have hlen:=eyeNum_len k st
 obtain ⟨q,hq⟩ : ∃ q,eyeNum k st = q:=⟨_,rfl⟩
 rw [hq] at he hlen
 rw [hq]
 obtain ⟨num,l',er⟩:=q
 have hx':=he.obj
 simp only [bytesV] at hx' hlen
 refine wK fun K hK=>?_
 refine awp_block ?_
 by_cases h0 : er = 0
 ·subst h0
  refine wS fun K hK=>?_
  simp only [↓DN,Qa,Qb,Qc,Qd,Qe,Qf,Qg,Qh,reduceCtorEq,↓reduceIte,Na,Nb,Nc,Nk,Nf,Ng,Nh,Za,Zb,Zc,TT,hx',i64_ne_false 0 rfl]
  refine hK _ _ ?_;clear hK K
  refine wC fun X Y hX hY=>?_
  simp only [UP,DF,Nc,↓reduceIte,DB]
  refine hY ?_;clear hX hY X Y
  by_cases h1 : most < (num : Int)
  ·refine wS fun K hK=>?_
   simp only [↓DN,Qa,Qb,Qc,Qd,Qe,Qf,Qg,Qh,reduceCtorEq,↓reduceIte,Na,Nb,Nc,Nk,Nf,Ng,Nh,Za,Zb,Zc,TT,decide_eq_true h1]
   refine hK _ _ ?_;clear hK K
   refine wC fun X Y hX hY=>?_
   simp only [UP,DF,Nc,↓reduceIte,DB]
   refine hX ?_;clear hX hY X Y
   refine wS fun K hK=>?_
   simp only [↓DN,Qa,Qb,Qc,Qd,Qe,Qf,Qg,Qh,reduceCtorEq,↓reduceIte,Na,Nb,Nc,Nk,Nf,Ng,Nh,Za,Zb,Zc,TT,hx']
   refine hK _ _ ?_;clear hK K
   refine wS fun K hK=>?_
   simp only [↓DN,Qa,Qb,Qc,Qd,Qe,Qf,Qg,Qh,reduceCtorEq,↓reduceIte,Na,Nb,Nc,Nk,Nf,Ng,Nh,Za,Zb,Zc,TT]
   refine hK _ _ ?_;clear hK K
   refine awp_ret ?_
   simp only [retQ,AEnds,aresL,ares,List.toList_toArray,↓upd_same]; try simp only [UP,DF,Nc,↓reduceIte,DT]
   have e : eyeText k most st = ([],st.1,11):=by unfold eyeText; rw [hq]; exact (if_pos rfl).trans (if_pos h1)
   rw [e]
   exact ⟨_,_,AV.weak_nil,AS.le.refl _,rfl,he.put⟩
  ·refine wS fun K hK=>?_
   simp only [↓DN,Qa,Qb,Qc,Qd,Qe,Qf,Qg,Qh,reduceCtorEq,↓reduceIte,Na,Nb,Nc,Nk,Nf,Ng,Nh,Za,Zb,Zc,TT,decide_eq_false h1]
   refine hK _ _ ?_;clear hK K
   refine wC fun X Y hX hY=>?_
   simp only [UP,DF,Nc,↓reduceIte,DB]
   refine hY ?_;clear hX hY X Y
   by_cases h2 : l'.length < num
   ·refine wS fun K hK=>?_
    simp only [↓DN,Qa,Qb,Qc,Qd,Qe,Qf,Qg,Qh,reduceCtorEq,↓reduceIte,Na,Nb,Nc,Nk,Nf,Ng,Nh,Za,Zb,Zc,TT,hx',eye_lt_nat,decide_eq_true h2]
    refine hK _ _ ?_;clear hK K
    refine wC fun X Y hX hY=>?_
    simp only [UP,DF,Nc,↓reduceIte,DB]
    refine hX ?_;clear hX hY X Y
    refine wS fun K hK=>?_
    simp only [↓DN,Qa,Qb,Qc,Qd,Qe,Qf,Qg,Qh,reduceCtorEq,↓reduceIte,Na,Nb,Nc,Nk,Nf,Ng,Nh,Za,Zb,Zc,TT,hx']
    refine hK _ _ ?_;clear hK K
    refine wS fun K hK=>?_
    simp only [↓DN,Qa,Qb,Qc,Qd,Qe,Qf,Qg,Qh,reduceCtorEq,↓reduceIte,Na,Nb,Nc,Nk,Nf,Ng,Nh,Za,Zb,Zc,TT]
    refine hK _ _ ?_;clear hK K
    refine awp_ret ?_
    simp only [retQ,AEnds,aresL,ares,List.toList_toArray,↓upd_same]; try simp only [UP,DF,Nc,↓reduceIte,DT]
    have e : eyeText k most st = ([],st.1,10):=by unfold eyeText; rw [hq]; exact (if_pos rfl).trans ((if_neg h1).trans (if_pos h2))
    rw [e]
    exact ⟨_,_,AV.weak_nil,AS.le.refl _,rfl,he.put⟩
   ·have e : eyeText k most st = eyeNext num (l',0):=by unfold eyeText; rw [hq]; exact (if_pos rfl).trans ((if_neg h1).trans (if_neg h2))
    refine wS fun K hK=>?_
    simp only [↓DN,Qa,Qb,Qc,Qd,Qe,Qf,Qg,Qh,reduceCtorEq,↓reduceIte,Na,Nb,Nc,Nk,Nf,Ng,Nh,Za,Zb,Zc,TT,hx',eye_lt_nat,decide_eq_false h2]
    refine hK _ _ ?_;clear hK K
    refine wC fun X Y hX hY=>?_
    simp only [UP,DF,Nc,↓reduceIte,DB]
    refine hY ?_;clear hX hY X Y
    refine awp_skip ?_
    simp only [thenQ,blockQ,if_true,if_false]
    refine hK _ _ ?_;clear hK K
    refine wS fun K hK=>?_
    simp only [↓DN,Qa,Qb,Qc,Qd,Qe,Qf,Qg,Qh,reduceCtorEq,↓reduceIte,Na,Nb,Nc,Nk,Nf,Ng,Nh,Za,Zb,Zc,TT]
    refine acallk (eyeRaw_calls s0 s' p (l',0) num (by simp only; omega) he) ?_
    rintro r s'' ⟨rfl,he'⟩
    simp only [↓DM,pval,DX,Nz,↓DN,Qa,Qb,Qc,Qd,Qe,Qf,Qg,Qh,reduceCtorEq,↓reduceIte,Na,Nb,Nc,Nk,Nf,Ng,Nh,Za,Zb,Zc,TT]
    refine hK _ _ ?_;clear hK K
    refine awp_ret ?_
    simp only [retQ,AEnds,aresL,ares,List.toList_toArray,↓upd_same]; try simp only [UP,DF,Nc,↓reduceIte,DT]
    rw [e]
    exact ⟨_,_,AV.weak.refl _,AS.le.refl _,rfl,he'⟩
 ·refine wS fun K hK=>?_
  simp only [↓DN,Qa,Qb,Qc,Qd,Qe,Qf,Qg,Qh,reduceCtorEq,↓reduceIte,Na,Nb,Nc,Nk,Nf,Ng,Nh,Za,Zb,Zc,TT,hx',i64_ne_true er h0]
  refine hK _ _ ?_;clear hK K
  refine wC fun X Y hX hY=>?_
  simp only [UP,DF,Nc,↓reduceIte,DB]
  refine hX ?_;clear hX hY X Y
  refine wS fun K hK=>?_
  simp only [↓DN,Qa,Qb,Qc,Qd,Qe,Qf,Qg,Qh,reduceCtorEq,↓reduceIte,Na,Nb,Nc,Nk,Nf,Ng,Nh,Za,Zb,Zc,TT]
  refine hK _ _ ?_;clear hK K
  refine awp_ret ?_
  simp only [retQ,AEnds,aresL,ares,List.toList_toArray,↓upd_same]; try simp only [UP,DF,Nc,↓reduceIte,DT]
  have e : eyeText k most st = ([],l',er):=by unfold eyeText; rw [hq]; exact if_neg h0
  rw [e]
  exact ⟨_,_,AV.weak_nil,AS.le.refl _,rfl,he⟩
theorem eyeShort_calls (s0 s : AS) (p : Nat) (st : EyeSt) (most : Int) (hl : st.1.length≤2 ^ 45) (h : EyeS s0 s p st) :
  ACalls Try.prog Γ 49 [.ptr p 0,.v (.int .i64 most)] s (fun r s'=>r = bytesV (eyeText 1 most st).1 .any∧EyeS s0 s' p (eyeText 1 most st).2):=by
 refine acalls_body Try.func49 rfl Try.ntmps49 Try.results49 (by simp) ?_
 refine wS fun K hK=>?_
 simp only [↓DN,Qa,Qb,Qc,Qd,Qe,Qf,Qg,Qh,reduceCtorEq,↓reduceIte,Na,Nb,Nc,Nk,Nf,Ng,Nh,Za,Zb,Zc,TT]
 refine hK _ _ ?_;clear hK K
 refine wS fun K hK=>?_
 simp only [↓DN,Qa,Qb,Qc,Qd,Qe,Qf,Qg,Qh,reduceCtorEq,↓reduceIte,Na,Nb,Nc,Nk,Nf,Ng,Nh,Za,Zb,Zc,TT]
 refine acallk (eyeText_calls s0 s p st 1 most (by omega) hl h) ?_
 rintro r s' ⟨rfl,he⟩
 simp only [↓DM,pval,DX,Nz,↓DN,Qa,Qb,Qc,Qd,Qe,Qf,Qg,Qh,reduceCtorEq,↓reduceIte,Na,Nb,Nc,Nk,Nf,Ng,Nh,Za,Zb,Zc,TT]
 refine hK _ _ ?_;clear hK K
 refine awp_ret ?_
 simp only [retQ,AEnds,aresL,ares,List.toList_toArray,↓upd_same]; try simp only [UP,DF,Nc,↓reduceIte,DT]
 exact ⟨_,_,AV.weak.refl _,AS.le.refl _,rfl,he⟩
theorem eyeLong_calls (s0 s : AS) (p : Nat) (st : EyeSt) (most : Int) (hl : st.1.length≤2 ^ 45) (h : EyeS s0 s p st) :
  ACalls Try.prog Γ 51 [.ptr p 0,.v (.int .i64 most)] s (fun r s'=>r = bytesV (eyeText 2 most st).1 .any∧EyeS s0 s' p (eyeText 2 most st).2):=by
 refine acalls_body Try.func51 rfl Try.ntmps51 Try.results51 (by simp) ?_
 refine wS fun K hK=>?_
 simp only [↓DN,Qa,Qb,Qc,Qd,Qe,Qf,Qg,Qh,reduceCtorEq,↓reduceIte,Na,Nb,Nc,Nk,Nf,Ng,Nh,Za,Zb,Zc,TT]
 refine hK _ _ ?_;clear hK K
 refine wS fun K hK=>?_
 simp only [↓DN,Qa,Qb,Qc,Qd,Qe,Qf,Qg,Qh,reduceCtorEq,↓reduceIte,Na,Nb,Nc,Nk,Nf,Ng,Nh,Za,Zb,Zc,TT]
 refine acallk (eyeText_calls s0 s p st 2 most (by omega) hl h) ?_
 rintro r s' ⟨rfl,he⟩
 simp only [↓DM,pval,DX,Nz,↓DN,Qa,Qb,Qc,Qd,Qe,Qf,Qg,Qh,reduceCtorEq,↓reduceIte,Na,Nb,Nc,Nk,Nf,Ng,Nh,Za,Zb,Zc,TT]
 refine hK _ _ ?_;clear hK K
 refine awp_ret ?_
 simp only [retQ,AEnds,aresL,ares,List.toList_toArray,↓upd_same]; try simp only [UP,DF,Nc,↓reduceIte,DT]
 exact ⟨_,_,AV.weak.refl _,AS.le.refl _,rfl,he⟩
theorem eyeEnd_calls (s0 s : AS) (p : Nat) (st : EyeSt) (h : EyeS s0 s p st) :
  ACalls Try.prog Γ 52 [.ptr p 0] s (fun r s'=>r = .v (.int .i64 (eyeEnd st))∧s' = s):=by
 refine acalls_body Try.func52 rfl Try.ntmps52 Try.results52 (by simp) ?_
 have hx:=h.obj
 obtain ⟨l,er⟩:=st
 simp only [bytesV] at hx
 refine wS fun K hK=>?_
 simp only [↓DN,Qa,Qb,Qc,Qd,Qe,Qf,Qg,Qh,reduceCtorEq,↓reduceIte,Na,Nb,Nc,Nk,Nf,Ng,Nh,Za,Zb,Zc,TT]
 refine hK _ _ ?_;clear hK K
 refine wK fun K hK=>?_
 have hgo : ∀ E1 : Env,E1 0 = .ptr p 0→eyeEnd (l,er) = er→K E1 s:=by
  intro E1 e0 e
  refine hK _ _ ?_;clear hK K
  refine wS fun K hK=>?_
  simp only [↓DN,Qa,Qb,Qc,Qd,Qe,Qf,Qg,Qh,reduceCtorEq,↓reduceIte,Na,Nb,Nc,Nk,Nf,Ng,Nh,Za,Zb,Zc,TT,e0,hx]
  refine hK _ _ ?_;clear hK K
  refine awp_ret ?_
  simp only [retQ,AEnds,aresL,ares,List.toList_toArray,↓upd_same]; try simp only [UP,DF,Nc,↓reduceIte,DT]
  exact ⟨_,_,AV.weak.refl _,AS.le.refl _,by rw [e],rfl⟩
 clear hK
 by_cases h0 : er = 0
 ·by_cases h1 : 0 < l.length
  ·refine wS fun K hK=>?_
   simp only [↓DN,Qa,Qb,Qc,Qd,Qe,Qf,Qg,Qh,reduceCtorEq,↓reduceIte,Na,Nb,Nc,Nk,Nf,Ng,Nh,Za,Zb,Zc,TT,hx,i64_eq_true er h0,decide_eq_true (show (0 : Int) < (l.length : Int) by omega)]
   refine hK _ _ ?_;clear hK K
   refine wC fun X Y hX hY=>?_
   simp only [UP,DF,Nc,↓reduceIte,DB]
   refine hX ?_;clear hX hY X Y
   refine wS fun K hK=>?_
   simp only [↓DN,Qa,Qb,Qc,Qd,Qe,Qf,Qg,Qh,reduceCtorEq,↓reduceIte,Na,Nb,Nc,Nk,Nf,Ng,Nh,Za,Zb,Zc,TT]
   refine hK _ _ ?_;clear hK K
   refine awp_ret ?_
   simp only [retQ,AEnds,aresL,ares,List.toList_toArray,↓upd_same]; try simp only [UP,DF,Nc,↓reduceIte,DT]
   exact ⟨_,_,AV.weak.refl _,AS.le.refl _,by simp [eyeEnd,h0,h1,atuple],rfl⟩
  ·refine wS fun K hK=>?_
   simp only [↓DN,Qa,Qb,Qc,Qd,Qe,Qf,Qg,Qh,reduceCtorEq,↓reduceIte,Na,Nb,Nc,Nk,Nf,Ng,Nh,Za,Zb,Zc,TT,hx,i64_eq_true er h0,decide_eq_false (show ¬ (0 : Int) < (l.length : Int) by omega)]
   refine hK _ _ ?_;clear hK K
   refine wC fun X Y hX hY=>?_
   simp only [UP,DF,Nc,↓reduceIte,DB]
   refine hY ?_;clear hX hY X Y
   refine awp_skip ?_
   exact hgo _ (by simp only [upd,initE,List.getD_cons_zero,Nc,↓reduceIte]) (by simp [eyeEnd,h1])
 ·refine wS fun K hK=>?_
  simp only [↓DN,Qa,Qb,Qc,Qd,Qe,Qf,Qg,Qh,reduceCtorEq,↓reduceIte,Na,Nb,Nc,Nk,Nf,Ng,Nh,Za,Zb,Zc,TT,hx,i64_eq_false er h0]
  refine hK _ _ ?_;clear hK K
  refine wC fun X Y hX hY=>?_
  simp only [UP,DF,Nc,↓reduceIte,DB]
  refine hY ?_;clear hX hY X Y
  refine awp_skip ?_
  exact hgo _ (by simp only [upd,initE,List.getD_cons_zero,Nc,↓reduceIte]) (by simp [eyeEnd,h0])
end Go.Proofs.Ytfbbckndpkmfcaa
namespace Go.Proofs.Ytfbbckndpkmfcaa
open Go Go.AM Go.Proofs
variable {Γ : Nat→List AV}
theorem val_step (y : Nat) (c : UInt8) (h : y < 2 ^ 56) : iadd .u64 (imul .u64 (y : Int) 256) (iconv .u64 (c.toNat : Int)) = ((y * 256 + c.toNat : Nat) : Int):=by
 have hc:=c.toNat_lt
 rw [iconv_u64_nat _ (by omega),show (256 : Int) = ((256 : Nat) : Int) from rfl,imul_u rfl,Nat.mod_eq_of_lt (by simp only [IntKind.bits]; omega),iadd_u rfl,Nat.mod_eq_of_lt (by simp only [IntKind.bits]; omega)]
theorem value_calls (l : List UInt8) (hl : l.length≤8) (s : AS) :
  ACalls Try.prog Γ 62 [.v (.string ⟨l.toArray⟩)] s (fun r s'=>r = .v (.int .u64 (beNat l))∧s' = s):=by
 refine acalls_body Try.func62 rfl Try.ntmps62 Try.results62 (by simp) ?_
 refine wS fun K hK=>?_
 simp only [↓DN,Qa,Qb,Qc,Qd,Qe,Qf,Qg,Qh,reduceCtorEq,↓reduceIte,Na,Nb,Nc,Nk,Nf,Ng,Nh,Za,Zb,Zc,TT]
 refine hK _ _ ?_;clear hK K
 refine wS fun K hK=>?_
 simp only [↓DN,Qa,Qb,Qc,Qd,Qe,Qf,Qg,Qh,reduceCtorEq,↓reduceIte,Na,Nb,Nc,Nk,Nf,Ng,Nh,Za,Zb,Zc,TT]
 refine hK _ _ ?_;clear hK K
 refine wK fun K hK=>?_
 refine wS fun K hK=>?_
 simp only [↓DN,Qa,Qb,Qc,Qd,Qe,Qf,Qg,Qh,reduceCtorEq,↓reduceIte,Na,Nb,Nc,Nk,Nf,Ng,Nh,Za,Zb,Zc,TT]
 refine hK _ _ ?_;clear hK K
 refine awp_block ?_
 refine awp_loop (fun E s1=>∃ i x : Nat,i≤l.length∧E 0 = .v (.string ⟨l.toArray⟩)∧E 4 = .v (.int .i64 i)∧E 3 = .v (.int .u64 x)∧x = beNat (l.take i)∧s1 = s)
  (fun E _=>match E 4 with | .v (.int _ i)=>l.length - i.toNat | _=>0) ?_ ?_
 ·exact ⟨0,0,Nat.zero_le _,by simp [upd,initE],by simp [upd],by simp [upd],by simp [beNat],rfl⟩
 ·rintro E1 s1 ⟨i,x,hi,h0,h4,h3,hx,rfl⟩ -
  refine wK fun K2 hK2=>?_
  by_cases hi' : i < l.length
  ·have hx2 : beNat (l.take (i + 1)) = x * 256 + l[i].toNat:=by rw [List.take_succ_eq_append_getElem hi',beNat_snoc,← hx]
   have hx7 : x < 2 ^ 56:=by
    rw [hx]
    refine Nat.lt_of_lt_of_le (beNat_take_lt l i) ?_
    rw [show (2 : Nat) ^ 56 = 256 ^ 7 from by decide]
    exact Nat.pow_le_pow_right (by decide) (by omega)
   have hgi : (0 : Int)≤(i : Int):=by omega
   have hget:=bs_get l i hi'
   generalize hcc : l[i] = c at *
   refine wS fun K hK=>?_
   simp only [↓DN,Qa,Qb,Qc,Qd,Qe,Qf,Qg,Qh,reduceCtorEq,↓reduceIte,Na,Nb,Nc,Nk,Nf,Ng,Nh,Za,Zb,Zc,TT,h0,h4,bs_size,eye_lt_nat,decide_eq_true hi']
   refine hK _ _ ?_;clear hK K
   refine wC fun X Y hX hY=>?_
   simp only [UP,DF,Nc,↓reduceIte,DB]
   refine hX ?_;clear hX hY X Y
   refine awp_skip ?_
   refine hK2 _ _ ?_;clear hK2 K2
   refine wK fun K3 hK3=>?_
   refine awp_block ?_
   refine wE fun K hK=>?_
   simp only [↓DN,Qa,Qb,Qc,Qd,Qe,Qf,Qg,Qh,reduceCtorEq,↓reduceIte,Na,Nb,Nc,Nk,Nf,Ng,Nh,Za,Zb,Zc,TT,h0,h4,h3,hgi,hget,byteV,val_step x c hx7]
   refine hK _ _ ?_;clear hK K
   simp only [blockQ,thenQ,if_true,if_false]
   refine hK3 _ _ ?_;clear hK3 K3
   refine wE fun K hK=>?_
   simp only [↓DN,Qa,Qb,Qc,Qd,Qe,Qf,Qg,Qh,reduceCtorEq,↓reduceIte,Na,Nb,Nc,Nk,Nf,Ng,Nh,Za,Zb,Zc,TT,h4,eye_succ i (by omega)]
   refine hK _ _ ?_;clear hK K
   refine ⟨⟨i + 1,_,by omega,by simp only [upd,h0,Nc,↓reduceIte],by simp only [upd,↓reduceIte],by simp only [upd,Nc,↓reduceIte],hx2.symm,rfl⟩,?_⟩
   simp only [h4,upd,↓reduceIte]
   omega
  ·refine wS fun K hK=>?_
   simp only [↓DN,Qa,Qb,Qc,Qd,Qe,Qf,Qg,Qh,reduceCtorEq,↓reduceIte,Na,Nb,Nc,Nk,Nf,Ng,Nh,Za,Zb,Zc,TT,h0,h4,bs_size,eye_lt_nat,decide_eq_false hi']
   refine hK _ _ ?_;clear hK K
   refine wC fun X Y hX hY=>?_
   simp only [UP,DF,Nc,↓reduceIte,DB]
   refine hY ?_;clear hX hY X Y
   refine awp_exit ?_
   simp only [thenQ,blockQ,if_true]
   refine hK _ _ ?_;clear hK hK2 K K2
   refine wS fun K hK=>?_
   simp only [↓DN,Qa,Qb,Qc,Qd,Qe,Qf,Qg,Qh,reduceCtorEq,↓reduceIte,Na,Nb,Nc,Nk,Nf,Ng,Nh,Za,Zb,Zc,TT,h3]
   refine hK _ _ ?_;clear hK K
   refine awp_ret ?_
   simp only [retQ,AEnds,aresL,ares,List.toList_toArray,↓upd_same]; try simp only [UP,DF,Nc,↓reduceIte,DT]
   refine ⟨_,_,AV.weak.refl _,AS.le.refl _,?_,rfl⟩
   rw [hx,List.take_of_length_le (by omega)]
end Go.Proofs.Ytfbbckndpkmfcaa
namespace Go.Proofs.Ytfbbckndpkmfcaa
open Go Go.AM Go.Proofs
variable {Γ : Nat→List AV}
theorem reyeNumber_calls (s0 s : AS) (p : Nat) (st : EyeSt) (size : Nat) (hs : size≤8) (hl : st.1.length < 2 ^ 61) (h : REyeS s0 s p st) :
  ACalls Try.prog Γ 53 [.ptr p 0,.v (.int .i64 size)] s (fun r s'=>r = .v (.int .u64 (eyeNum size st).1)∧REyeS s0 s' p (eyeNum size st).2):=by
 refine acalls_body Try.func53 rfl Try.ntmps53 Try.results53 (by simp) ?_
 have hx:=h.obj
 obtain ⟨l,er⟩:=st
 simp only at hx hl
 refine wS fun K hK=>?_
 simp only [↓DN,Qa,Qb,Qc,Qd,Qe,Qf,Qg,Qh,reduceCtorEq,↓reduceIte,Na,Nb,Nc,Nk,Nf,Ng,Nh,Za,Zb,Zc,TT]
 refine hK _ _ ?_;clear hK K
 refine wK fun K hK=>?_
 by_cases h0 : er = 0
 ·subst h0
  refine wS fun K hK=>?_
  simp only [↓DN,Qa,Qb,Qc,Qd,Qe,Qf,Qg,Qh,reduceCtorEq,↓reduceIte,Na,Nb,Nc,Nk,Nf,Ng,Nh,Za,Zb,Zc,TT,hx,i64_ne_false 0 rfl]
  refine hK _ _ ?_;clear hK K
  refine wC fun X Y hX hY=>?_
  simp only [UP,DF,Nc,↓reduceIte,DB]
  refine hY ?_;clear hX hY X Y
  refine awp_skip ?_
  refine hK _ _ ?_;clear hK K
  refine wK fun K hK=>?_
  by_cases h1 : l.length < size
  ·refine wS fun K hK=>?_
   simp only [↓DN,Qa,Qb,Qc,Qd,Qe,Qf,Qg,Qh,reduceCtorEq,↓reduceIte,Na,Nb,Nc,Nk,Nf,Ng,Nh,Za,Zb,Zc,TT,hx,bs_size,eye_lt_nat,decide_eq_true h1]
   refine hK _ _ ?_;clear hK K
   refine wC fun X Y hX hY=>?_
   simp only [UP,DF,Nc,↓reduceIte,DB]
   refine hX ?_;clear hX hY X Y
   refine wS fun K hK=>?_
   simp only [↓DN,Qa,Qb,Qc,Qd,Qe,Qf,Qg,Qh,reduceCtorEq,↓reduceIte,Na,Nb,Nc,Nk,Nf,Ng,Nh,Za,Zb,Zc,TT,hx]
   refine hK _ _ ?_;clear hK K
   refine wS fun K hK=>?_
   simp only [↓DN,Qa,Qb,Qc,Qd,Qe,Qf,Qg,Qh,reduceCtorEq,↓reduceIte,Na,Nb,Nc,Nk,Nf,Ng,Nh,Za,Zb,Zc,TT]
   refine hK _ _ ?_;clear hK K
   refine awp_ret ?_
   simp only [retQ,AEnds,aresL,ares,List.toList_toArray,↓upd_same]; try simp only [UP,DF,Nc,↓reduceIte,DT]
   rw [eyeNum_short h1]
   exact ⟨_,_,AV.weak.refl _,AS.le.refl _,rfl,h.put⟩
  ·have h1' : size≤l.length:=by omega
   have hle : (size : Int)≤(l.length : Int):=by omega
   have hge : (0 : Int)≤(size : Int):=by omega
   refine wS fun K hK=>?_
   simp only [↓DN,Qa,Qb,Qc,Qd,Qe,Qf,Qg,Qh,reduceCtorEq,↓reduceIte,Na,Nb,Nc,Nk,Nf,Ng,Nh,Za,Zb,Zc,TT,hx,bs_size,eye_lt_nat,decide_eq_false h1]
   refine hK _ _ ?_;clear hK K
   refine wC fun X Y hX hY=>?_
   simp only [UP,DF,Nc,↓reduceIte,DB]
   refine hY ?_;clear hX hY X Y
   refine awp_skip ?_
   refine hK _ _ ?_;clear hK K
   refine wS fun K hK=>?_
   simp only [↓DN,Qa,Qb,Qc,Qd,Qe,Qf,Qg,Qh,reduceCtorEq,↓reduceIte,Na,Nb,Nc,Nk,Nf,Ng,Nh,Za,Zb,Zc,TT,hx,bs_size,bs_extract,hle,hge]
   refine acallk (value_calls (l.take size) (by rw [List.length_take]; omega) s) ?_
   rintro r s' ⟨rfl,rfl⟩
   simp only [↓DM,pval,DX,Nz,↓DN,Qa,Qb,Qc,Qd,Qe,Qf,Qg,Qh,reduceCtorEq,↓reduceIte,Na,Nb,Nc,Nk,Nf,Ng,Nh,Za,Zb,Zc,TT]
   refine hK _ _ ?_;clear hK K
   refine wS fun K hK=>?_
   simp only [↓DN,Qa,Qb,Qc,Qd,Qe,Qf,Qg,Qh,reduceCtorEq,↓reduceIte,Na,Nb,Nc,Nk,Nf,Ng,Nh,Za,Zb,Zc,TT,hx,bs_size,bs_extract,hle,hge,Int.le_refl]
   refine hK _ _ ?_;clear hK K
   refine wS fun K hK=>?_
   simp only [↓DN,Qa,Qb,Qc,Qd,Qe,Qf,Qg,Qh,reduceCtorEq,↓reduceIte,Na,Nb,Nc,Nk,Nf,Ng,Nh,Za,Zb,Zc,TT]
   refine hK _ _ ?_;clear hK K
   refine awp_ret ?_
   simp only [retQ,AEnds,aresL,ares,List.toList_toArray,↓upd_same]; try simp only [UP,DF,Nc,↓reduceIte,DT]
   rw [eyeNum_ok h1']
   refine ⟨_,_,AV.weak.refl _,AS.le.refl _,rfl,h.put' ?_⟩
   rw [List.take_length]
 ·refine wS fun K hK=>?_
  simp only [↓DN,Qa,Qb,Qc,Qd,Qe,Qf,Qg,Qh,reduceCtorEq,↓reduceIte,Na,Nb,Nc,Nk,Nf,Ng,Nh,Za,Zb,Zc,TT,hx,i64_ne_true er h0]
  refine hK _ _ ?_;clear hK K
  refine wC fun X Y hX hY=>?_
  simp only [UP,DF,Nc,↓reduceIte,DB]
  refine hX ?_;clear hX hY X Y
  refine wS fun K hK=>?_
  simp only [↓DN,Qa,Qb,Qc,Qd,Qe,Qf,Qg,Qh,reduceCtorEq,↓reduceIte,Na,Nb,Nc,Nk,Nf,Ng,Nh,Za,Zb,Zc,TT]
  refine hK _ _ ?_;clear hK K
  refine awp_ret ?_
  simp only [retQ,AEnds,aresL,ares,List.toList_toArray,↓upd_same]; try simp only [UP,DF,Nc,↓reduceIte,DT]
  rw [eyeNum_err h0]
  exact ⟨_,_,AV.weak.refl _,AS.le.refl _,rfl,h⟩
theorem reyeText_calls (s0 s : AS) (p : Nat) (st : EyeSt) (size : Nat) (most : Int) (hs : size≤7) (hl : st.1.length < 2 ^ 61) (h : REyeS s0 s p st) :
  ACalls Try.prog Γ 54 [.ptr p 0,.v (.int .i64 size),.v (.int .i64 most)] s (fun r s'=>r = .v (.string ⟨(eyeText size most st).1.toArray⟩)∧REyeS s0 s' p (eyeText size most st).2):=by
 refine acalls_body Try.func54 rfl Try.ntmps54 Try.results54 (by simp) ?_
 have hx:=h.obj
 obtain ⟨l,er⟩:=st
 simp only at hx hl
 refine wS fun K hK=>?_
 simp only [↓DN,Qa,Qb,Qc,Qd,Qe,Qf,Qg,Qh,reduceCtorEq,↓reduceIte,Na,Nb,Nc,Nk,Nf,Ng,Nh,Za,Zb,Zc,TT]
 refine hK _ _ ?_;clear hK K
 refine wK fun K hK=>?_
 by_cases h0 : er = 0
 ·subst h0
  refine wS fun K hK=>?_
  simp only [↓DN,Qa,Qb,Qc,Qd,Qe,Qf,Qg,Qh,reduceCtorEq,↓reduceIte,Na,Nb,Nc,Nk,Nf,Ng,Nh,Za,Zb,Zc,TT,hx,i64_ne_false 0 rfl]
  refine hK _ _ ?_;clear hK K
  refine wC fun X Y hX hY=>?_
  simp only [UP,DF,Nc,↓reduceIte,DB]
  refine hY ?_;clear hX hY X Y
  refine awp_skip ?_
  refine hK _ _ ?_;clear hK K
  refine wK fun K hK=>?_
  by_cases h1 : l.length < size
  ·refine wS fun K hK=>?_
   simp only [↓DN,Qa,Qb,Qc,Qd,Qe,Qf,Qg,Qh,reduceCtorEq,↓reduceIte,Na,Nb,Nc,Nk,Nf,Ng,Nh,Za,Zb,Zc,TT,hx,bs_size,eye_lt_nat,decide_eq_true h1]
   refine hK _ _ ?_;clear hK K
   refine wC fun X Y hX hY=>?_
   simp only [UP,DF,Nc,↓reduceIte,DB]
   refine hX ?_;clear hX hY X Y
   refine wS fun K hK=>?_
   simp only [↓DN,Qa,Qb,Qc,Qd,Qe,Qf,Qg,Qh,reduceCtorEq,↓reduceIte,Na,Nb,Nc,Nk,Nf,Ng,Nh,Za,Zb,Zc,TT,hx]
   refine hK _ _ ?_;clear hK K
   refine wS fun K hK=>?_
   simp only [↓DN,Qa,Qb,Qc,Qd,Qe,Qf,Qg,Qh,reduceCtorEq,↓reduceIte,Na,Nb,Nc,Nk,Nf,Ng,Nh,Za,Zb,Zc,TT]
   refine hK _ _ ?_;clear hK K
   refine awp_ret ?_
   simp only [retQ,AEnds,aresL,ares,List.toList_toArray,↓upd_same]; try simp only [UP,DF,Nc,↓reduceIte,DT]
   rw [eyeText_short h1]
   exact ⟨_,_,AV.weak.refl _,AS.le.refl _,rfl,h.put⟩
  ·have h1' : size≤l.length:=by omega
   have hle : (size : Int)≤(l.length : Int):=by omega
   have hge : (0 : Int)≤(size : Int):=by omega
   refine wS fun K hK=>?_
   simp only [↓DN,Qa,Qb,Qc,Qd,Qe,Qf,Qg,Qh,reduceCtorEq,↓reduceIte,Na,Nb,Nc,Nk,Nf,Ng,Nh,Za,Zb,Zc,TT,hx,bs_size,eye_lt_nat,decide_eq_false h1]
   refine hK _ _ ?_;clear hK K
   refine wC fun X Y hX hY=>?_
   simp only [UP,DF,Nc,↓reduceIte,DB]
   refine hY ?_;clear hX hY X Y
   refine awp_skip ?_
   refine hK _ _ ?_;clear hK K
   obtain ⟨n,hn⟩ : ∃ n,n = beNat (l.take size):=⟨_,rfl⟩
   have hn7 : n < 2 ^ 56:=by
    rw [hn]
    refine Nat.lt_of_lt_of_le (beNat_take_lt l size) ?_
    rw [show (2 : Nat) ^ 56 = 256 ^ 7 from by decide]
    exact Nat.pow_le_pow_right (by decide) hs
   have hcv : iconv .i64 (n : Int) = n:=iconv_i64 (by omega)
   refine wS fun K hK=>?_
   simp only [↓DN,Qa,Qb,Qc,Qd,Qe,Qf,Qg,Qh,reduceCtorEq,↓reduceIte,Na,Nb,Nc,Nk,Nf,Ng,Nh,Za,Zb,Zc,TT,hx,bs_size,bs_extract,hle,hge]
   refine acallk (value_calls (l.take size) (by rw [List.length_take]; omega) s) ?_
   rintro r s' ⟨rfl,rfl⟩
   rw [← hn]
   simp only [↓DM,pval,DX,Nz,↓DN,Qa,Qb,Qc,Qd,Qe,Qf,Qg,Qh,reduceCtorEq,↓reduceIte,Na,Nb,Nc,Nk,Nf,Ng,Nh,Za,Zb,Zc,TT,hcv]
   refine hK _ _ ?_;clear hK K
   refine wK fun K hK=>?_
   by_cases h2 : most < (n : Int)
   ·refine wS fun K hK=>?_
    simp only [↓DN,Qa,Qb,Qc,Qd,Qe,Qf,Qg,Qh,reduceCtorEq,↓reduceIte,Na,Nb,Nc,Nk,Nf,Ng,Nh,Za,Zb,Zc,TT,decide_eq_true h2]
    refine hK _ _ ?_;clear hK K
    refine wC fun X Y hX hY=>?_
    simp only [UP,DF,Nc,↓reduceIte,DB]
    refine hX ?_;clear hX hY X Y
    refine wS fun K hK=>?_
    simp only [↓DN,Qa,Qb,Qc,Qd,Qe,Qf,Qg,Qh,reduceCtorEq,↓reduceIte,Na,Nb,Nc,Nk,Nf,Ng,Nh,Za,Zb,Zc,TT,hx]
    refine hK _ _ ?_;clear hK K
    refine wS fun K hK=>?_
    simp only [↓DN,Qa,Qb,Qc,Qd,Qe,Qf,Qg,Qh,reduceCtorEq,↓reduceIte,Na,Nb,Nc,Nk,Nf,Ng,Nh,Za,Zb,Zc,TT]
    refine hK _ _ ?_;clear hK K
    refine awp_ret ?_
    simp only [retQ,AEnds,aresL,ares,List.toList_toArray,↓upd_same]; try simp only [UP,DF,Nc,↓reduceIte,DT]
    rw [eyeText_long h1' (by rw [← hn]; exact h2)]
    exact ⟨_,_,AV.weak.refl _,AS.le.refl _,rfl,h.put⟩
   ·refine wS fun K hK=>?_
    simp only [↓DN,Qa,Qb,Qc,Qd,Qe,Qf,Qg,Qh,reduceCtorEq,↓reduceIte,Na,Nb,Nc,Nk,Nf,Ng,Nh,Za,Zb,Zc,TT,decide_eq_false h2]
    refine hK _ _ ?_;clear hK K
    refine wC fun X Y hX hY=>?_
    simp only [UP,DF,Nc,↓reduceIte,DB]
    refine hY ?_;clear hX hY X Y
    refine awp_skip ?_
    refine hK _ _ ?_;clear hK K
    refine wK fun K hK=>?_
    have hsub : isub .i64 (l.length : Int) (size : Int) = ((l.length - size : Nat) : Int):=by rw [isub_i64 (by omega)]; omega
    by_cases h3 : l.length - size < n
    ·refine wS fun K hK=>?_
     simp only [↓DN,Qa,Qb,Qc,Qd,Qe,Qf,Qg,Qh,reduceCtorEq,↓reduceIte,Na,Nb,Nc,Nk,Nf,Ng,Nh,Za,Zb,Zc,TT,hx,bs_size,hsub,eye_lt_nat,decide_eq_true h3]
     refine hK _ _ ?_;clear hK K
     refine wC fun X Y hX hY=>?_
     simp only [UP,DF,Nc,↓reduceIte,DB]
     refine hX ?_;clear hX hY X Y
     refine wS fun K hK=>?_
     simp only [↓DN,Qa,Qb,Qc,Qd,Qe,Qf,Qg,Qh,reduceCtorEq,↓reduceIte,Na,Nb,Nc,Nk,Nf,Ng,Nh,Za,Zb,Zc,TT,hx]
     refine hK _ _ ?_;clear hK K
     refine wS fun K hK=>?_
     simp only [↓DN,Qa,Qb,Qc,Qd,Qe,Qf,Qg,Qh,reduceCtorEq,↓reduceIte,Na,Nb,Nc,Nk,Nf,Ng,Nh,Za,Zb,Zc,TT]
     refine hK _ _ ?_;clear hK K
     refine awp_ret ?_
     simp only [retQ,AEnds,aresL,ares,List.toList_toArray,↓upd_same]; try simp only [UP,DF,Nc,↓reduceIte,DT]
     rw [eyeText_less h1' (by rw [← hn]; exact h2) (by rw [← hn]; exact h3)]
     exact ⟨_,_,AV.weak.refl _,AS.le.refl _,rfl,h.put⟩
    ·have hadd : iadd .i64 (size : Int) (n : Int) = ((size + n : Nat) : Int):=by rw [iadd_i64 (by omega)]; rfl
     have hle2 : (size : Int)≤((size + n : Nat) : Int):=by omega
     have hle3 : ((size + n : Nat) : Int)≤(l.length : Int):=by omega
     have hge2 : (0 : Int)≤((size + n : Nat) : Int):=by omega
     refine wS fun K hK=>?_
     simp only [↓DN,Qa,Qb,Qc,Qd,Qe,Qf,Qg,Qh,reduceCtorEq,↓reduceIte,Na,Nb,Nc,Nk,Nf,Ng,Nh,Za,Zb,Zc,TT,hx,bs_size,hsub,eye_lt_nat,decide_eq_false h3]
     refine hK _ _ ?_;clear hK K
     refine wC fun X Y hX hY=>?_
     simp only [UP,DF,Nc,↓reduceIte,DB]
     refine hY ?_;clear hX hY X Y
     refine awp_skip ?_
     refine hK _ _ ?_;clear hK K
     refine wS fun K hK=>?_
     simp only [↓DN,Qa,Qb,Qc,Qd,Qe,Qf,Qg,Qh,reduceCtorEq,↓reduceIte,Na,Nb,Nc,Nk,Nf,Ng,Nh,Za,Zb,Zc,TT,hx,bs_size,bs_extract,hge,hadd,hle2,hle3]
     refine hK _ _ ?_;clear hK K
     refine wS fun K hK=>?_
     simp only [↓DN,Qa,Qb,Qc,Qd,Qe,Qf,Qg,Qh,reduceCtorEq,↓reduceIte,Na,Nb,Nc,Nk,Nf,Ng,Nh,Za,Zb,Zc,TT,hx,bs_size,bs_extract,hadd,hge2,hle3,Int.le_refl]
     refine hK _ _ ?_;clear hK K
     refine wS fun K hK=>?_
     simp only [↓DN,Qa,Qb,Qc,Qd,Qe,Qf,Qg,Qh,reduceCtorEq,↓reduceIte,Na,Nb,Nc,Nk,Nf,Ng,Nh,Za,Zb,Zc,TT]
     refine hK _ _ ?_;clear hK K
     refine awp_ret ?_
     simp only [retQ,AEnds,aresL,ares,List.toList_toArray,↓upd_same]; try simp only [UP,DF,Nc,↓reduceIte,DT]
     rw [eyeText_ok h1' (by rw [← hn]; exact h2) (by rw [← hn]; exact h3),← hn]
     refine ⟨_,_,AV.weak.refl _,AS.le.refl _,rfl,h.put' ?_⟩
     rw [List.take_length]
 ·refine wS fun K hK=>?_
  simp only [↓DN,Qa,Qb,Qc,Qd,Qe,Qf,Qg,Qh,reduceCtorEq,↓reduceIte,Na,Nb,Nc,Nk,Nf,Ng,Nh,Za,Zb,Zc,TT,hx,i64_ne_true er h0]
  refine hK _ _ ?_;clear hK K
  refine wC fun X Y hX hY=>?_
  simp only [UP,DF,Nc,↓reduceIte,DB]
  refine hX ?_;clear hX hY X Y
  refine wS fun K hK=>?_
  simp only [↓DN,Qa,Qb,Qc,Qd,Qe,Qf,Qg,Qh,reduceCtorEq,↓reduceIte,Na,Nb,Nc,Nk,Nf,Ng,Nh,Za,Zb,Zc,TT]
  refine hK _ _ ?_;clear hK K
  refine awp_ret ?_
  simp only [retQ,AEnds,aresL,ares,List.toList_toArray,↓upd_same]; try simp only [UP,DF,Nc,↓reduceIte,DT]
  rw [eyeText_err h0]
  exact ⟨_,_,AV.weak.refl _,AS.le.refl _,rfl,h⟩
theorem reyeEnd_calls (s0 s : AS) (p : Nat) (st : EyeSt) (h : REyeS s0 s p st) :
  ACalls Try.prog Γ 55 [.ptr p 0] s (fun r s'=>r = .v (.int .i64 (eyeEnd st))∧s' = s):=by
 refine acalls_body Try.func55 rfl Try.ntmps55 Try.results55 (by simp) ?_
 have hx:=h.obj
 obtain ⟨l,er⟩:=st
 simp only at hx
 refine wS fun K hK=>?_
 simp only [↓DN,Qa,Qb,Qc,Qd,Qe,Qf,Qg,Qh,reduceCtorEq,↓reduceIte,Na,Nb,Nc,Nk,Nf,Ng,Nh,Za,Zb,Zc,TT]
 refine hK _ _ ?_;clear hK K
 refine wK fun K hK=>?_
 have hgo : ∀ E1 : Env,E1 0 = .ptr p 0→eyeEnd (l,er) = er→K E1 s:=by
  intro E1 e0 e
  refine hK _ _ ?_;clear hK K
  refine wS fun K hK=>?_
  simp only [↓DN,Qa,Qb,Qc,Qd,Qe,Qf,Qg,Qh,reduceCtorEq,↓reduceIte,Na,Nb,Nc,Nk,Nf,Ng,Nh,Za,Zb,Zc,TT,e0,hx]
  refine hK _ _ ?_;clear hK K
  refine awp_ret ?_
  simp only [retQ,AEnds,aresL,ares,List.toList_toArray,↓upd_same]; try simp only [UP,DF,Nc,↓reduceIte,DT]
  exact ⟨_,_,AV.weak.refl _,AS.le.refl _,by rw [e],rfl⟩
 clear hK
 by_cases h0 : er = 0
 ·by_cases h1 : 0 < l.length
  ·refine wS fun K hK=>?_
   simp only [↓DN,Qa,Qb,Qc,Qd,Qe,Qf,Qg,Qh,reduceCtorEq,↓reduceIte,Na,Nb,Nc,Nk,Nf,Ng,Nh,Za,Zb,Zc,TT,hx,i64_eq_true er h0,bs_size,decide_eq_true (show (0 : Int) < (l.length : Int) by omega)]
   refine hK _ _ ?_;clear hK K
   refine wC fun X Y hX hY=>?_
   simp only [UP,DF,Nc,↓reduceIte,DB]
   refine hX ?_;clear hX hY X Y
   refine wS fun K hK=>?_
   simp only [↓DN,Qa,Qb,Qc,Qd,Qe,Qf,Qg,Qh,reduceCtorEq,↓reduceIte,Na,Nb,Nc,Nk,Nf,Ng,Nh,Za,Zb,Zc,TT]
   refine hK _ _ ?_;clear hK K
   refine awp_ret ?_
   simp only [retQ,AEnds,aresL,ares,List.toList_toArray,↓upd_same]; try simp only [UP,DF,Nc,↓reduceIte,DT]
   exact ⟨_,_,AV.weak.refl _,AS.le.refl _,by simp [eyeEnd,h0,h1,atuple],rfl⟩
  ·refine wS fun K hK=>?_
   simp only [↓DN,Qa,Qb,Qc,Qd,Qe,Qf,Qg,Qh,reduceCtorEq,↓reduceIte,Na,Nb,Nc,Nk,Nf,Ng,Nh,Za,Zb,Zc,TT,hx,i64_eq_true er h0,bs_size,decide_eq_false (show ¬ (0 : Int) < (l.length : Int) by omega)]
   refine hK _ _ ?_;clear hK K
   refine wC fun X Y hX hY=>?_
   simp only [UP,DF,Nc,↓reduceIte,DB]
   refine hY ?_;clear hX hY X Y
   refine awp_skip ?_
   exact hgo _ (by simp only [upd,initE,List.getD_cons_zero,Nc,↓reduceIte]) (by simp [eyeEnd,h1])
 ·refine wS fun K hK=>?_
  simp only [↓DN,Qa,Qb,Qc,Qd,Qe,Qf,Qg,Qh,reduceCtorEq,↓reduceIte,Na,Nb,Nc,Nk,Nf,Ng,Nh,Za,Zb,Zc,TT,hx,i64_eq_false er h0]
  refine hK _ _ ?_;clear hK K
  refine wC fun X Y hX hY=>?_
  simp only [UP,DF,Nc,↓reduceIte,DB]
  refine hY ?_;clear hX hY X Y
  refine awp_skip ?_
  exact hgo _ (by simp only [upd,initE,List.getD_cons_zero,Nc,↓reduceIte]) (by simp [eyeEnd,h0])
end Go.Proofs.Ytfbbckndpkmfcaa
namespace Go.Proofs.Ytfbbckndpkmfcaa
open Go Go.AM Go.Proofs
variable {Γ : Nat→List AV}
theorem within_calls (n m : Int) (s : AS) : ACalls Try.prog Γ 43 [.v (.int .i64 n),.v (.int .i64 m)] s (fun r s'=>r = .v (.bool (decide (0≤n) && decide (n≤m)))∧s' = s):=by
 refine acalls_body Try.func43 rfl Try.ntmps43 Try.results43 (by simp) ?_
 rcases ff2 (decide (0≤n)) (decide (n≤m)) with hd | hd | hd
 all_goals
  refine wS fun K hK=>?_
  simp only [↓DN,Qa,Qb,Qc,Qd,Qe,Qf,Qg,Qh,reduceCtorEq,↓reduceIte,Na,Nb,Nc,Nk,Nf,Ng,Nh,Za,Zb,Zc,TT]
  refine hK _ _ ?_;clear hK K
  refine wS fun K hK=>?_
  simp only [↓DN,Qa,Qb,Qc,Qd,Qe,Qf,Qg,Qh,reduceCtorEq,↓reduceIte,Na,Nb,Nc,Nk,Nf,Ng,Nh,Za,Zb,Zc,TT,hd]
  refine hK _ _ ?_;clear hK K
  refine awp_ret ?_
  simp only [retQ,AEnds,aresL,ares,List.toList_toArray,↓upd_same]; try simp only [UP,DF,Nc,↓reduceIte,DT]
  refine ⟨_,_,AV.weak.refl _,AS.le.refl _,?_,rfl⟩
  simp only [hd,Bool.and_true,Bool.true_and,Bool.false_and,Bool.and_false]
theorem i64_eq_one3 (x : Int) (h : x = 3) : (x == 3) = true:=by subst h; rfl
theorem i64_ne_three (x : Int) (h : x≠3) : (x == 3) = false:=by simpa using h
theorem recRight_calls (R : Rec) (s : AS) : ACalls Try.prog Γ 22 [.agg R.cells] s (fun r s'=>r = .v (.bool (decide R.right))∧s' = s):=by
 refine acalls_body Try.func22 rfl Try.ntmps22 Try.results22 (by simp) ?_
 unfold Rec.cells
 obtain ⟨k,g,e,t,u,y,tr,sc,wr⟩:=R
 refine wS fun K hK=>?_
 simp only [↓DN,Qa,Qb,Qc,Qd,Qe,Qf,Qg,Qh,reduceCtorEq,↓reduceIte,Na,Nb,Nc,Nk,Nf,Ng,Nh,Za,Zb,Zc,TT]
 intro o ho
 refine hK _ _ ?_;clear hK K
 refine wS fun K hK=>?_
 simp only [↓DN,Qa,Qb,Qc,Qd,Qe,Qf,Qg,Qh,reduceCtorEq,↓reduceIte,Na,Nb,Nc,Nk,Nf,Ng,Nh,Za,Zb,Zc,TT]
 refine hK _ _ ?_;clear hK K
 refine wK fun K hK=>?_
 have hgo : ∀ (hh ww : Int) (hw : (k = 3∧hh = 0∧ww = 0)∨(k≠3∧hh = 32∧ww = 48)) (E1 : Env),E1 1 = .ptr o 0→E1 3 = .v (.int .i64 hh)→E1 4 = .v (.int .i64 ww)→K E1 (s.set o [.v (.int .i64 k),.sl 1 g.length (g.map byteV) .any,.v (.int .i64 e),.v (.int .i64 t),.v (.int .i64 u),.sl 1 y.length (y.map byteV) .any,.sl 1 tr.length (tr.map byteV) .any,.sl 1 sc.length (sc.map byteV) .any,.sl 1 wr.length (wr.map byteV) .any]):=by
  intro hh ww hw E1 e1 e3 e4
  refine hK _ _ ?_;clear hK K
  rcases ff11 (decide (1≤k)) (decide (k≤3)) (decide (1≤(g.length : Int))) (decide ((g.length : Int)≤16)) (decide (0≤e) && decide (e≤1048576)) (decide (0≤t) && decide (t≤1099511627776)) (decide (0≤u) && decide (u≤1099511627776))
   (decide ((y.length : Int)≤60000)) ((tr.length : Int) == hh) ((sc.length : Int) == hh) ((wr.length : Int) == ww) with hd | hd | hd | hd | hd | hd | hd | hd | hd | hd | hd | hd
  ·refine wS fun K hK=>?_
   simp only [↓DN,Qa,Qb,Qc,Qd,Qe,Qf,Qg,Qh,reduceCtorEq,↓reduceIte,Na,Nb,Nc,Nk,Nf,Ng,Nh,Za,Zb,Zc,TT,e1,e3,e4,hd]
   refine hK _ _ ?_;clear hK K
   refine awp_ret ?_
   simp only [retQ,AEnds,aresL,ares,List.toList_toArray,↓upd_same]; try simp only [UP,DF,Nc,↓reduceIte,DT]
   refine ⟨_,s,AV.weak.refl _,AS.le_set (AS.le.refl s) ho _,?_,rfl⟩
   rw [right_bool _ hh ww hw]
   simp only [hd,Bool.and_true,Bool.true_and,Bool.false_and,Bool.and_false]
  ·refine wS fun K hK=>?_
   simp only [↓DN,Qa,Qb,Qc,Qd,Qe,Qf,Qg,Qh,reduceCtorEq,↓reduceIte,Na,Nb,Nc,Nk,Nf,Ng,Nh,Za,Zb,Zc,TT,e1,e3,e4,hd]
   refine hK _ _ ?_;clear hK K
   refine awp_ret ?_
   simp only [retQ,AEnds,aresL,ares,List.toList_toArray,↓upd_same]; try simp only [UP,DF,Nc,↓reduceIte,DT]
   refine ⟨_,s,AV.weak.refl _,AS.le_set (AS.le.refl s) ho _,?_,rfl⟩
   rw [right_bool _ hh ww hw]
   simp only [hd,Bool.and_true,Bool.true_and,Bool.false_and,Bool.and_false]
  ·refine wS fun K hK=>?_
   simp only [↓DN,Qa,Qb,Qc,Qd,Qe,Qf,Qg,Qh,reduceCtorEq,↓reduceIte,Na,Nb,Nc,Nk,Nf,Ng,Nh,Za,Zb,Zc,TT,e1,e3,e4,hd]
   refine hK _ _ ?_;clear hK K
   refine awp_ret ?_
   simp only [retQ,AEnds,aresL,ares,List.toList_toArray,↓upd_same]; try simp only [UP,DF,Nc,↓reduceIte,DT]
   refine ⟨_,s,AV.weak.refl _,AS.le_set (AS.le.refl s) ho _,?_,rfl⟩
   rw [right_bool _ hh ww hw]
   simp only [hd,Bool.and_true,Bool.true_and,Bool.false_and,Bool.and_false]
  ·refine wS fun K hK=>?_
   simp only [↓DN,Qa,Qb,Qc,Qd,Qe,Qf,Qg,Qh,reduceCtorEq,↓reduceIte,Na,Nb,Nc,Nk,Nf,Ng,Nh,Za,Zb,Zc,TT,e1,e3,e4,hd]
   refine hK _ _ ?_;clear hK K
   refine awp_ret ?_
   simp only [retQ,AEnds,aresL,ares,List.toList_toArray,↓upd_same]; try simp only [UP,DF,Nc,↓reduceIte,DT]
   refine ⟨_,s,AV.weak.refl _,AS.le_set (AS.le.refl s) ho _,?_,rfl⟩
   rw [right_bool _ hh ww hw]
   simp only [hd,Bool.and_true,Bool.true_and,Bool.false_and,Bool.and_false]
  ·refine wS fun K hK=>?_
   simp only [↓DN,Qa,Qb,Qc,Qd,Qe,Qf,Qg,Qh,reduceCtorEq,↓reduceIte,Na,Nb,Nc,Nk,Nf,Ng,Nh,Za,Zb,Zc,TT,e1,e3,e4,hd]
   refine acallk (within_calls e 1048576 _) ?_
   rintro r s' ⟨rfl,rfl⟩
   simp only [↓DM,pval,DX,Nz,↓DN,Qa,Qb,Qc,Qd,Qe,Qf,Qg,Qh,reduceCtorEq,↓reduceIte,Na,Nb,Nc,Nk,Nf,Ng,Nh,Za,Zb,Zc,TT,e1,e3,e4,hd]
   refine hK _ _ ?_;clear hK K
   refine awp_ret ?_
   simp only [retQ,AEnds,aresL,ares,List.toList_toArray,↓upd_same]; try simp only [UP,DF,Nc,↓reduceIte,DT]
   refine ⟨_,s,AV.weak.refl _,AS.le_set (AS.le.refl s) ho _,?_,rfl⟩
   rw [right_bool _ hh ww hw]
   simp only [hd,Bool.and_true,Bool.true_and,Bool.false_and,Bool.and_false]
  ·refine wS fun K hK=>?_
   simp only [↓DN,Qa,Qb,Qc,Qd,Qe,Qf,Qg,Qh,reduceCtorEq,↓reduceIte,Na,Nb,Nc,Nk,Nf,Ng,Nh,Za,Zb,Zc,TT,e1,e3,e4,hd]
   refine acallk (within_calls e 1048576 _) ?_
   rintro r s' ⟨rfl,rfl⟩
   simp only [↓DM,pval,DX,Nz,↓DN,Qa,Qb,Qc,Qd,Qe,Qf,Qg,Qh,reduceCtorEq,↓reduceIte,Na,Nb,Nc,Nk,Nf,Ng,Nh,Za,Zb,Zc,TT,e1,e3,e4,hd]
   refine acallk (within_calls t 1099511627776 _) ?_
   rintro r s' ⟨rfl,rfl⟩
   simp only [↓DM,pval,DX,Nz,↓DN,Qa,Qb,Qc,Qd,Qe,Qf,Qg,Qh,reduceCtorEq,↓reduceIte,Na,Nb,Nc,Nk,Nf,Ng,Nh,Za,Zb,Zc,TT,e1,e3,e4,hd]
   refine hK _ _ ?_;clear hK K
   refine awp_ret ?_
   simp only [retQ,AEnds,aresL,ares,List.toList_toArray,↓upd_same]; try simp only [UP,DF,Nc,↓reduceIte,DT]
   refine ⟨_,s,AV.weak.refl _,AS.le_set (AS.le.refl s) ho _,?_,rfl⟩
   rw [right_bool _ hh ww hw]
   simp only [hd,Bool.and_true,Bool.true_and,Bool.false_and,Bool.and_false]
  ·refine wS fun K hK=>?_
   simp only [↓DN,Qa,Qb,Qc,Qd,Qe,Qf,Qg,Qh,reduceCtorEq,↓reduceIte,Na,Nb,Nc,Nk,Nf,Ng,Nh,Za,Zb,Zc,TT,e1,e3,e4,hd]
   refine acallk (within_calls e 1048576 _) ?_
   rintro r s' ⟨rfl,rfl⟩
   simp only [↓DM,pval,DX,Nz,↓DN,Qa,Qb,Qc,Qd,Qe,Qf,Qg,Qh,reduceCtorEq,↓reduceIte,Na,Nb,Nc,Nk,Nf,Ng,Nh,Za,Zb,Zc,TT,e1,e3,e4,hd]
   refine acallk (within_calls t 1099511627776 _) ?_
   rintro r s' ⟨rfl,rfl⟩
   simp only [↓DM,pval,DX,Nz,↓DN,Qa,Qb,Qc,Qd,Qe,Qf,Qg,Qh,reduceCtorEq,↓reduceIte,Na,Nb,Nc,Nk,Nf,Ng,Nh,Za,Zb,Zc,TT,e1,e3,e4,hd]
   refine acallk (within_calls u 1099511627776 _) ?_
   rintro r s' ⟨rfl,rfl⟩
   simp only [↓DM,pval,DX,Nz,↓DN,Qa,Qb,Qc,Qd,Qe,Qf,Qg,Qh,reduceCtorEq,↓reduceIte,Na,Nb,Nc,Nk,Nf,Ng,Nh,Za,Zb,Zc,TT,e1,e3,e4,hd]
   refine hK _ _ ?_;clear hK K
   refine awp_ret ?_
   simp only [retQ,AEnds,aresL,ares,List.toList_toArray,↓upd_same]; try simp only [UP,DF,Nc,↓reduceIte,DT]
   refine ⟨_,s,AV.weak.refl _,AS.le_set (AS.le.refl s) ho _,?_,rfl⟩
   rw [right_bool _ hh ww hw]
   simp only [hd,Bool.and_true,Bool.true_and,Bool.false_and,Bool.and_false]
  ·refine wS fun K hK=>?_
   simp only [↓DN,Qa,Qb,Qc,Qd,Qe,Qf,Qg,Qh,reduceCtorEq,↓reduceIte,Na,Nb,Nc,Nk,Nf,Ng,Nh,Za,Zb,Zc,TT,e1,e3,e4,hd]
   refine acallk (within_calls e 1048576 _) ?_
   rintro r s' ⟨rfl,rfl⟩
   simp only [↓DM,pval,DX,Nz,↓DN,Qa,Qb,Qc,Qd,Qe,Qf,Qg,Qh,reduceCtorEq,↓reduceIte,Na,Nb,Nc,Nk,Nf,Ng,Nh,Za,Zb,Zc,TT,e1,e3,e4,hd]
   refine acallk (within_calls t 1099511627776 _) ?_
   rintro r s' ⟨rfl,rfl⟩
   simp only [↓DM,pval,DX,Nz,↓DN,Qa,Qb,Qc,Qd,Qe,Qf,Qg,Qh,reduceCtorEq,↓reduceIte,Na,Nb,Nc,Nk,Nf,Ng,Nh,Za,Zb,Zc,TT,e1,e3,e4,hd]
   refine acallk (within_calls u 1099511627776 _) ?_
   rintro r s' ⟨rfl,rfl⟩
   simp only [↓DM,pval,DX,Nz,↓DN,Qa,Qb,Qc,Qd,Qe,Qf,Qg,Qh,reduceCtorEq,↓reduceIte,Na,Nb,Nc,Nk,Nf,Ng,Nh,Za,Zb,Zc,TT,e1,e3,e4,hd]
   refine hK _ _ ?_;clear hK K
   refine awp_ret ?_
   simp only [retQ,AEnds,aresL,ares,List.toList_toArray,↓upd_same]; try simp only [UP,DF,Nc,↓reduceIte,DT]
   refine ⟨_,s,AV.weak.refl _,AS.le_set (AS.le.refl s) ho _,?_,rfl⟩
   rw [right_bool _ hh ww hw]
   simp only [hd,Bool.and_true,Bool.true_and,Bool.false_and,Bool.and_false]
  ·refine wS fun K hK=>?_
   simp only [↓DN,Qa,Qb,Qc,Qd,Qe,Qf,Qg,Qh,reduceCtorEq,↓reduceIte,Na,Nb,Nc,Nk,Nf,Ng,Nh,Za,Zb,Zc,TT,e1,e3,e4,hd]
   refine acallk (within_calls e 1048576 _) ?_
   rintro r s' ⟨rfl,rfl⟩
   simp only [↓DM,pval,DX,Nz,↓DN,Qa,Qb,Qc,Qd,Qe,Qf,Qg,Qh,reduceCtorEq,↓reduceIte,Na,Nb,Nc,Nk,Nf,Ng,Nh,Za,Zb,Zc,TT,e1,e3,e4,hd]
   refine acallk (within_calls t 1099511627776 _) ?_
   rintro r s' ⟨rfl,rfl⟩
   simp only [↓DM,pval,DX,Nz,↓DN,Qa,Qb,Qc,Qd,Qe,Qf,Qg,Qh,reduceCtorEq,↓reduceIte,Na,Nb,Nc,Nk,Nf,Ng,Nh,Za,Zb,Zc,TT,e1,e3,e4,hd]
   refine acallk (within_calls u 1099511627776 _) ?_
   rintro r s' ⟨rfl,rfl⟩
   simp only [↓DM,pval,DX,Nz,↓DN,Qa,Qb,Qc,Qd,Qe,Qf,Qg,Qh,reduceCtorEq,↓reduceIte,Na,Nb,Nc,Nk,Nf,Ng,Nh,Za,Zb,Zc,TT,e1,e3,e4,hd]
   refine hK _ _ ?_;clear hK K
   refine awp_ret ?_
   simp only [retQ,AEnds,aresL,ares,List.toList_toArray,↓upd_same]; try simp only [UP,DF,Nc,↓reduceIte,DT]
   refine ⟨_,s,AV.weak.refl _,AS.le_set (AS.le.refl s) ho _,?_,rfl⟩
   rw [right_bool _ hh ww hw]
   simp only [hd,Bool.and_true,Bool.true_and,Bool.false_and,Bool.and_false]
  ·refine wS fun K hK=>?_
   simp only [↓DN,Qa,Qb,Qc,Qd,Qe,Qf,Qg,Qh,reduceCtorEq,↓reduceIte,Na,Nb,Nc,Nk,Nf,Ng,Nh,Za,Zb,Zc,TT,e1,e3,e4,hd]
   refine acallk (within_calls e 1048576 _) ?_
   rintro r s' ⟨rfl,rfl⟩
   simp only [↓DM,pval,DX,Nz,↓DN,Qa,Qb,Qc,Qd,Qe,Qf,Qg,Qh,reduceCtorEq,↓reduceIte,Na,Nb,Nc,Nk,Nf,Ng,Nh,Za,Zb,Zc,TT,e1,e3,e4,hd]
   refine acallk (within_calls t 1099511627776 _) ?_
   rintro r s' ⟨rfl,rfl⟩
   simp only [↓DM,pval,DX,Nz,↓DN,Qa,Qb,Qc,Qd,Qe,Qf,Qg,Qh,reduceCtorEq,↓reduceIte,Na,Nb,Nc,Nk,Nf,Ng,Nh,Za,Zb,Zc,TT,e1,e3,e4,hd]
   refine acallk (within_calls u 1099511627776 _) ?_
   rintro r s' ⟨rfl,rfl⟩
   simp only [↓DM,pval,DX,Nz,↓DN,Qa,Qb,Qc,Qd,Qe,Qf,Qg,Qh,reduceCtorEq,↓reduceIte,Na,Nb,Nc,Nk,Nf,Ng,Nh,Za,Zb,Zc,TT,e1,e3,e4,hd]
   refine hK _ _ ?_;clear hK K
   refine awp_ret ?_
   simp only [retQ,AEnds,aresL,ares,List.toList_toArray,↓upd_same]; try simp only [UP,DF,Nc,↓reduceIte,DT]
   refine ⟨_,s,AV.weak.refl _,AS.le_set (AS.le.refl s) ho _,?_,rfl⟩
   rw [right_bool _ hh ww hw]
   simp only [hd,Bool.and_true,Bool.true_and,Bool.false_and,Bool.and_false]
  ·refine wS fun K hK=>?_
   simp only [↓DN,Qa,Qb,Qc,Qd,Qe,Qf,Qg,Qh,reduceCtorEq,↓reduceIte,Na,Nb,Nc,Nk,Nf,Ng,Nh,Za,Zb,Zc,TT,e1,e3,e4,hd]
   refine acallk (within_calls e 1048576 _) ?_
   rintro r s' ⟨rfl,rfl⟩
   simp only [↓DM,pval,DX,Nz,↓DN,Qa,Qb,Qc,Qd,Qe,Qf,Qg,Qh,reduceCtorEq,↓reduceIte,Na,Nb,Nc,Nk,Nf,Ng,Nh,Za,Zb,Zc,TT,e1,e3,e4,hd]
   refine acallk (within_calls t 1099511627776 _) ?_
   rintro r s' ⟨rfl,rfl⟩
   simp only [↓DM,pval,DX,Nz,↓DN,Qa,Qb,Qc,Qd,Qe,Qf,Qg,Qh,reduceCtorEq,↓reduceIte,Na,Nb,Nc,Nk,Nf,Ng,Nh,Za,Zb,Zc,TT,e1,e3,e4,hd]
   refine acallk (within_calls u 1099511627776 _) ?_
   rintro r s' ⟨rfl,rfl⟩
   simp only [↓DM,pval,DX,Nz,↓DN,Qa,Qb,Qc,Qd,Qe,Qf,Qg,Qh,reduceCtorEq,↓reduceIte,Na,Nb,Nc,Nk,Nf,Ng,Nh,Za,Zb,Zc,TT,e1,e3,e4,hd]
   refine hK _ _ ?_;clear hK K
   refine awp_ret ?_
   simp only [retQ,AEnds,aresL,ares,List.toList_toArray,↓upd_same]; try simp only [UP,DF,Nc,↓reduceIte,DT]
   refine ⟨_,s,AV.weak.refl _,AS.le_set (AS.le.refl s) ho _,?_,rfl⟩
   rw [right_bool _ hh ww hw]
   simp only [hd,Bool.and_true,Bool.true_and,Bool.false_and,Bool.and_false]
  ·refine wS fun K hK=>?_
   simp only [↓DN,Qa,Qb,Qc,Qd,Qe,Qf,Qg,Qh,reduceCtorEq,↓reduceIte,Na,Nb,Nc,Nk,Nf,Ng,Nh,Za,Zb,Zc,TT,e1,e3,e4,hd]
   refine acallk (within_calls e 1048576 _) ?_
   rintro r s' ⟨rfl,rfl⟩
   simp only [↓DM,pval,DX,Nz,↓DN,Qa,Qb,Qc,Qd,Qe,Qf,Qg,Qh,reduceCtorEq,↓reduceIte,Na,Nb,Nc,Nk,Nf,Ng,Nh,Za,Zb,Zc,TT,e1,e3,e4,hd]
   refine acallk (within_calls t 1099511627776 _) ?_
   rintro r s' ⟨rfl,rfl⟩
   simp only [↓DM,pval,DX,Nz,↓DN,Qa,Qb,Qc,Qd,Qe,Qf,Qg,Qh,reduceCtorEq,↓reduceIte,Na,Nb,Nc,Nk,Nf,Ng,Nh,Za,Zb,Zc,TT,e1,e3,e4,hd]
   refine acallk (within_calls u 1099511627776 _) ?_
   rintro r s' ⟨rfl,rfl⟩
   simp only [↓DM,pval,DX,Nz,↓DN,Qa,Qb,Qc,Qd,Qe,Qf,Qg,Qh,reduceCtorEq,↓reduceIte,Na,Nb,Nc,Nk,Nf,Ng,Nh,Za,Zb,Zc,TT,e1,e3,e4,hd]
   refine hK _ _ ?_;clear hK K
   refine awp_ret ?_
   simp only [retQ,AEnds,aresL,ares,List.toList_toArray,↓upd_same]; try simp only [UP,DF,Nc,↓reduceIte,DT]
   refine ⟨_,s,AV.weak.refl _,AS.le_set (AS.le.refl s) ho _,?_,rfl⟩
   rw [right_bool _ hh ww hw]
   simp only [hd,Bool.and_true,Bool.true_and,Bool.false_and,Bool.and_false]
 clear hK
 by_cases hk : k = 3
 ·refine wS fun K hK=>?_
  simp only [↓DN,Qa,Qb,Qc,Qd,Qe,Qf,Qg,Qh,reduceCtorEq,↓reduceIte,Na,Nb,Nc,Nk,Nf,Ng,Nh,Za,Zb,Zc,TT,i64_eq_one3 k hk]
  refine hK _ _ ?_;clear hK K
  refine wC fun X Y hX hY=>?_
  simp only [UP,DF,Nc,↓reduceIte,DB]
  refine hX ?_;clear hX hY X Y
  refine wE fun K hK=>?_
  simp only [↓DN,Qa,Qb,Qc,Qd,Qe,Qf,Qg,Qh,reduceCtorEq,↓reduceIte,Na,Nb,Nc,Nk,Nf,Ng,Nh,Za,Zb,Zc,TT]
  refine hK _ _ ?_;clear hK K
  simp only [blockQ,thenQ,if_true,if_false]
  exact hgo 0 0 (.inl ⟨hk,rfl,rfl⟩) _ (by simp only [upd,Nc,↓reduceIte]) (by simp only [upd,Nc,↓reduceIte]) (by simp only [upd,↓reduceIte])
 ·refine wS fun K hK=>?_
  simp only [↓DN,Qa,Qb,Qc,Qd,Qe,Qf,Qg,Qh,reduceCtorEq,↓reduceIte,Na,Nb,Nc,Nk,Nf,Ng,Nh,Za,Zb,Zc,TT,i64_ne_three k hk]
  refine hK _ _ ?_;clear hK K
  refine wC fun X Y hX hY=>?_
  simp only [UP,DF,Nc,↓reduceIte,DB]
  refine hY ?_;clear hX hY X Y
  refine awp_skip ?_
  exact hgo 32 48 (.inr ⟨hk,rfl,rfl⟩) _ (by simp only [upd,Nc,↓reduceIte]) (by simp only [upd,Nc,↓reduceIte]) (by simp only [upd,Nc,↓reduceIte])
theorem refRight12_calls (R : Rec) (s : AS) : ACalls Try.prog Γ 23 [.agg R.cells] s (fun r s'=>r = .v (.bool (decide R.right))∧s' = s):=by
 refine acalls_body Try.func23 rfl Try.ntmps23 Try.results23 (by simp) ?_
 unfold Rec.cells
 obtain ⟨k,g,e,t,u,y,tr,sc,wr⟩:=R
 refine wS fun K hK=>?_
 simp only [↓DN,Qa,Qb,Qc,Qd,Qe,Qf,Qg,Qh,reduceCtorEq,↓reduceIte,Na,Nb,Nc,Nk,Nf,Ng,Nh,Za,Zb,Zc,TT]
 intro o ho
 refine hK _ _ ?_;clear hK K
 refine wS fun K hK=>?_
 simp only [↓DN,Qa,Qb,Qc,Qd,Qe,Qf,Qg,Qh,reduceCtorEq,↓reduceIte,Na,Nb,Nc,Nk,Nf,Ng,Nh,Za,Zb,Zc,TT]
 refine hK _ _ ?_;clear hK K
 refine wK fun K hK=>?_
 have hgo : ∀ (hh ww : Int) (hw : (k = 3∧hh = 0∧ww = 0)∨(k≠3∧hh = 32∧ww = 48)) (E1 : Env),E1 1 = .ptr o 0→E1 3 = .v (.int .i64 hh)→E1 4 = .v (.int .i64 ww)→K E1 (s.set o [.v (.int .i64 k),.sl 1 g.length (g.map byteV) .any,.v (.int .i64 e),.v (.int .i64 t),.v (.int .i64 u),.sl 1 y.length (y.map byteV) .any,.sl 1 tr.length (tr.map byteV) .any,.sl 1 sc.length (sc.map byteV) .any,.sl 1 wr.length (wr.map byteV) .any]):=by
  intro hh ww hw E1 e1 e3 e4
  refine hK _ _ ?_;clear hK K
  refine wK fun K hK=>?_
  have hrb:=right_bool ⟨k,g,e,t,u,y,tr,sc,wr⟩ hh ww hw
  simp only at hrb
  rcases tt6 (decide (k < 1)) (decide (3 < k)) (decide ((g.length : Int) < 1)) (decide (16 < (g.length : Int))) (decide (e < 0)) (decide (1048576 < e)) with hd | hd | hd | hd | hd | hd | hd
  case inr.inr.inr.inr.inr.inr =>
   refine wS fun K hK=>?_
   simp only [↓DN,Qa,Qb,Qc,Qd,Qe,Qf,Qg,Qh,reduceCtorEq,↓reduceIte,Na,Nb,Nc,Nk,Nf,Ng,Nh,Za,Zb,Zc,TT,e1,hd]
   refine hK _ _ ?_;clear hK K
   refine wC fun X Y hX hY=>?_
   simp only [UP,DF,Nc,↓reduceIte,DB]
   refine hY ?_;clear hX hY X Y
   refine awp_skip ?_
   refine hK _ _ ?_;clear hK K
   refine wK fun K hK=>?_
   rcases tt5 (decide (t < 0)) (decide (1099511627776 < t)) (decide (u < 0)) (decide (1099511627776 < u)) (decide (60000 < (y.length : Int))) with he | he | he | he | he | he
   case inr.inr.inr.inr.inr =>
    refine wS fun K hK=>?_
    simp only [↓DN,Qa,Qb,Qc,Qd,Qe,Qf,Qg,Qh,reduceCtorEq,↓reduceIte,Na,Nb,Nc,Nk,Nf,Ng,Nh,Za,Zb,Zc,TT,e1,he]
    refine hK _ _ ?_;clear hK K
    refine wC fun X Y hX hY=>?_
    simp only [UP,DF,Nc,↓reduceIte,DB]
    refine hY ?_;clear hX hY X Y
    refine awp_skip ?_
    refine hK _ _ ?_;clear hK K
    rcases ff3 ((tr.length : Int) == hh) ((sc.length : Int) == hh) ((wr.length : Int) == ww) with hf | hf | hf | hf
    all_goals
     refine wS fun K hK=>?_
     simp only [↓DN,Qa,Qb,Qc,Qd,Qe,Qf,Qg,Qh,reduceCtorEq,↓reduceIte,Na,Nb,Nc,Nk,Nf,Ng,Nh,Za,Zb,Zc,TT,e1,e3,e4,hf]
     refine hK _ _ ?_;clear hK K
     refine awp_ret ?_
     simp only [retQ,AEnds,aresL,ares,List.toList_toArray,↓upd_same]; try simp only [UP,DF,Nc,↓reduceIte,DT]
     refine ⟨_,s,AV.weak.refl _,AS.le_set (AS.le.refl s) ho _,?_,rfl⟩
     rw [hrb]
     simp only [decide_eq_false_iff_not] at hd he
     simp only [hf,Bool.and_true,Bool.and_false,Bool.true_and,Bool.false_and,show decide (1≤k) = true from decide_eq_true (by omega),show decide (k≤3) = true from decide_eq_true (by omega),show decide (1≤(g.length : Int)) = true from decide_eq_true (by omega),show decide ((g.length : Int)≤16) = true from decide_eq_true (by omega),show decide (0≤e) = true from decide_eq_true (by omega),show decide (e≤1048576) = true from decide_eq_true (by omega),
      show decide (0≤t) = true from decide_eq_true (by omega),show decide (t≤1099511627776) = true from decide_eq_true (by omega),show decide (0≤u) = true from decide_eq_true (by omega),show decide (u≤1099511627776) = true from decide_eq_true (by omega),show decide ((y.length : Int)≤60000) = true from decide_eq_true (by omega)]
   all_goals
    refine wS fun K hK=>?_
    simp only [↓DN,Qa,Qb,Qc,Qd,Qe,Qf,Qg,Qh,reduceCtorEq,↓reduceIte,Na,Nb,Nc,Nk,Nf,Ng,Nh,Za,Zb,Zc,TT,e1,he]
    refine hK _ _ ?_;clear hK K
    refine wC fun X Y hX hY=>?_
    simp only [UP,DF,Nc,↓reduceIte,DB]
    refine hX ?_;clear hX hY X Y
    refine wS fun K hK=>?_
    simp only [↓DN,Qa,Qb,Qc,Qd,Qe,Qf,Qg,Qh,reduceCtorEq,↓reduceIte,Na,Nb,Nc,Nk,Nf,Ng,Nh,Za,Zb,Zc,TT]
    refine hK _ _ ?_;clear hK K
    refine awp_ret ?_
    simp only [retQ,AEnds,aresL,ares,List.toList_toArray,↓upd_same]; try simp only [UP,DF,Nc,↓reduceIte,DT]
    refine ⟨_,s,AV.weak.refl _,AS.le_set (AS.le.refl s) ho _,?_,rfl⟩
    have hF : decide (Rec.right ⟨k,g,e,t,u,y,tr,sc,wr⟩) = false:=decide_eq_false fun hr=>by
     have hr':=hr.facts
     simp only at hr'
     simp only [decide_eq_false_iff_not,decide_eq_true_eq] at he
     omega
    rw [hF]
    try rfl
  all_goals
   refine wS fun K hK=>?_
   simp only [↓DN,Qa,Qb,Qc,Qd,Qe,Qf,Qg,Qh,reduceCtorEq,↓reduceIte,Na,Nb,Nc,Nk,Nf,Ng,Nh,Za,Zb,Zc,TT,e1,hd]
   refine hK _ _ ?_;clear hK K
   refine wC fun X Y hX hY=>?_
   simp only [UP,DF,Nc,↓reduceIte,DB]
   refine hX ?_;clear hX hY X Y
   refine wS fun K hK=>?_
   simp only [↓DN,Qa,Qb,Qc,Qd,Qe,Qf,Qg,Qh,reduceCtorEq,↓reduceIte,Na,Nb,Nc,Nk,Nf,Ng,Nh,Za,Zb,Zc,TT]
   refine hK _ _ ?_;clear hK K
   refine awp_ret ?_
   simp only [retQ,AEnds,aresL,ares,List.toList_toArray,↓upd_same]; try simp only [UP,DF,Nc,↓reduceIte,DT]
   refine ⟨_,s,AV.weak.refl _,AS.le_set (AS.le.refl s) ho _,?_,rfl⟩
   have hF : decide (Rec.right ⟨k,g,e,t,u,y,tr,sc,wr⟩) = false:=decide_eq_false fun hr=>by
    have hr':=hr.facts
    simp only at hr'
    simp only [decide_eq_false_iff_not,decide_eq_true_eq] at hd
    omega
   rw [hF]
   try rfl
 clear hK
 by_cases hk : k = 3
 ·refine wS fun K hK=>?_
  simp only [↓DN,Qa,Qb,Qc,Qd,Qe,Qf,Qg,Qh,reduceCtorEq,↓reduceIte,Na,Nb,Nc,Nk,Nf,Ng,Nh,Za,Zb,Zc,TT,i64_eq_one3 k hk]
  refine hK _ _ ?_;clear hK K
  refine wC fun X Y hX hY=>?_
  simp only [UP,DF,Nc,↓reduceIte,DB]
  refine hX ?_;clear hX hY X Y
  refine wS fun K hK=>?_
  simp only [↓DN,Qa,Qb,Qc,Qd,Qe,Qf,Qg,Qh,reduceCtorEq,↓reduceIte,Na,Nb,Nc,Nk,Nf,Ng,Nh,Za,Zb,Zc,TT]
  refine hK _ _ ?_;clear hK K
  refine wE fun K hK=>?_
  simp only [↓DN,Qa,Qb,Qc,Qd,Qe,Qf,Qg,Qh,reduceCtorEq,↓reduceIte,Na,Nb,Nc,Nk,Nf,Ng,Nh,Za,Zb,Zc,TT]
  refine hK _ _ ?_;clear hK K
  simp only [blockQ,thenQ,if_true,if_false]
  exact hgo 0 0 (.inl ⟨hk,rfl,rfl⟩) _ (by simp only [upd,Nc,↓reduceIte]) (by simp only [upd,Nc,↓reduceIte]) (by simp only [upd,↓reduceIte])
 ·refine wS fun K hK=>?_
  simp only [↓DN,Qa,Qb,Qc,Qd,Qe,Qf,Qg,Qh,reduceCtorEq,↓reduceIte,Na,Nb,Nc,Nk,Nf,Ng,Nh,Za,Zb,Zc,TT,i64_ne_three k hk]
  refine hK _ _ ?_;clear hK K
  refine wC fun X Y hX hY=>?_
  simp only [UP,DF,Nc,↓reduceIte,DB]
  refine hY ?_;clear hX hY X Y
  refine awp_skip ?_
  exact hgo 32 48 (.inr ⟨hk,rfl,rfl⟩) _ (by simp only [upd,Nc,↓reduceIte]) (by simp only [upd,Nc,↓reduceIte]) (by simp only [upd,Nc,↓reduceIte])
theorem bytes_eq (a b : List UInt8) : ((ByteArray.mk a.toArray).toList == (ByteArray.mk b.toArray).toList) = decide (a = b):=by rw [ByteArray.toList_mk,ByteArray.toList_mk,beq_list]
end Go.Proofs.Ytfbbckndpkmfcaa
