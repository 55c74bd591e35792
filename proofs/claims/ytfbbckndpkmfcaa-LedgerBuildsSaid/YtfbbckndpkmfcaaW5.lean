/- Contracts of the program's functions, each walked once; the conditions stand in each theorem. -/
import Derived.Test.YtfbbckndpkmfcaaAMp6
import Derived.Test.YtfbbckndpkmfcaaW1
import Derived.Test.YtfbbckndpkmfcaaW4
set_option linter.unusedSimpArgs false
set_option linter.unusedVariables false
open Nat renaming reduceLT → Na, reduceLeDiff → Nb, reduceEqDiff → Nc, reduceAdd → Nk, reduceMul → Nf, reducePow → Ng, reduceSub → Nh, reduceBEq → Nz
open Int renaming reduceLT → Za, reduceLE → Zb, reduceToNat → Zc
open Go.AM renaming ashift → Qa, aconv → Qb, aindexAddr → Qc, aindex → Qd, aslice → Qe, abuiltin → Qf, awp_reg_seq → wS, awp_reg_end → wE, awp_seq_k → wK, awp_cond_k → wC
open Go.AM.AV renaming cells → Qg, one → Qh
set_option maxRecDepth 100000
set_option maxHeartbeats 8000000
set_option autoImplicit false
namespace Go.Proofs.Ytfbbckndpkmfcaa
open Go Go.AM Go.Proofs
variable {Γ : Nat→List AV}
theorem len_bne_true {a b : Nat} (h : a≠b) : (((a : Int) != (b : Int))) = true:=by
 rw [bne_iff_ne]
 omega
theorem len_bne_false {a b : Nat} (h : a = b) : (((a : Int) != (b : Int))) = false:=by subst h; simp
theorem texts_calls (l : List (List UInt8)) (hl : l.length≤2 ^ 30) (s : AS) : ACalls Try.prog Γ 17 [textsV l] s (fun r s'=>r = strsV l∧s' = s):=by
 refine acalls_body Try.func17 rfl Try.ntmps17 Try.results17 (by simp) ?_
 have hat:=fun (i : Nat) (hi : i < l.length)=>text_at1 hi
 have hsl : strsV l = .sl 1 l.length (l.map strC) .any:=rfl
 rw [hsl]
 unfold textsV
 generalize hX : (l.map fun b=>bytesV b .any) = X at *
 refine wS fun K hK=>?_
 simp only [↓DN,Qa,Qb,Qc,Qd,Qe,Qf,Qg,Qh,reduceCtorEq,↓reduceIte,Na,Nb,Nc,Nk,Nf,Ng,Nh,Za,Zb,Zc,TT]
 refine hK _ _ ?_;clear hK K
 refine wS fun K hK=>?_
 simp only [↓DN,Qa,Qb,Qc,Qd,Qe,Qf,Qg,Qh,reduceCtorEq,↓reduceIte,Na,Nb,Nc,Nk,Nf,Ng,Nh,Za,Zb,Zc,TT]
 refine hK _ _ ?_;clear hK K
 refine wK fun K hK=>?_
 refine wS fun K hK=>?_
 simp only [↓DN,Qa,Qb,Qc,Qd,Qe,Qf,Qg,Qh,reduceCtorEq,↓reduceIte,Na,Nb,Nc,Nk,Nf,Ng,Nh,Za,Zb,Zc,TT]
 refine hK _ _ ?_;clear hK K
 refine awp_block ?_
 refine awp_loop (fun E s2=>∃ (i : Nat) (x : AV),i≤l.length∧E 4 = .v (.int .i64 i)∧E 0 = .sl 1 l.length X .any∧E 3 = x∧RBuf 1 s s2 x i ((l.take i).map strC)∧s.le s2)
  (fun E _=>match E 4 with | .v (.int _ i)=>l.length - i.toNat | _=>0) ?_ ?_
 ·exact ⟨0,_,Nat.zero_le _,by simp only [upd,Nc,↓reduceIte]; rfl,by simp only [upd,initE,List.getD_cons_zero,List.getD_cons_succ,Nc,↓reduceIte],by simp only [upd,Nc,↓reduceIte]; rfl,RBuf.nil _ _ _,AS.le.refl _⟩
 ·rintro E1 s4 ⟨i,x,hi,g4,g0,g3,hx,hle⟩ -
  refine wK fun K2 hK2=>?_
  by_cases hi' : i < l.length
  ·refine wS fun K hK=>?_
   simp only [↓DN,Qa,Qb,Qc,Qd,Qe,Qf,Qg,Qh,reduceCtorEq,↓reduceIte,Na,Nb,Nc,Nk,Nf,Ng,Nh,Za,Zb,Zc,TT,g4,g0,eye_lt_nat,decide_eq_true hi']
   refine hK _ _ ?_;clear hK K
   refine wC fun X Y hX hY=>?_
   simp only [UP,DF,Nc,↓reduceIte,DB]
   refine hX ?_;clear hX hY X Y
   refine awp_skip ?_
   refine hK2 _ _ ?_;clear hK2 K2
   refine wK fun K3 hK3=>?_
   refine awp_block ?_
   have hge : (0 : Int)≤(i : Int):=by omega
   have hat':=hat i hi'
   have htk:=List.take_succ_eq_append_getElem hi'
   have hend : ∀ (E : Env) (s5 : AS) (x2 : AV),E 4 = .v (.int .i64 i)→E 0 = .sl 1 l.length X .any→E 3 = x2→RBuf 1 s s5 x2 (i + 1) ((l.take (i + 1)).map strC)→s.le s5→K3 E s5:=by
    intro E s5 x2 f4 f0 f3 fx fle
    refine hK3 _ _ ?_;clear hK3 K3
    refine wE fun K hK=>?_
    simp only [↓DN,Qa,Qb,Qc,Qd,Qe,Qf,Qg,Qh,reduceCtorEq,↓reduceIte,Na,Nb,Nc,Nk,Nf,Ng,Nh,Za,Zb,Zc,TT,f4,eye_succM i (by omega)]
    refine hK _ _ ?_;clear hK K
    refine ⟨⟨i + 1,x2,by omega,by simp only [upd,Nc,↓reduceIte],by simp only [upd,f0,Nc,↓reduceIte],by simp only [upd,f3,Nc,↓reduceIte],fx,fle⟩,?_⟩
    simp only [g4,upd,↓reduceIte]
    omega
   clear hK3
   rw [htk,List.map_append,List.map_cons,List.map_nil] at hend
   generalize l[i] = b at *
   generalize (l.take i).map strC = L at *
   unfold strC at hend
   unfold bytesV at hat'
   rcases hx with ⟨rfl,hi0,hL0⟩ | ⟨t',e,rfl,ht',ht0⟩
   ·refine wE fun K hK=>?_
    simp only [↓DN,Qa,Qb,Qc,Qd,Qe,Qf,Qg,Qh,reduceCtorEq,↓reduceIte,Na,Nb,Nc,Nk,Nf,Ng,Nh,Za,Zb,Zc,TT,g3,g4,g0,hge,eye_lt_nat,hi',hat',nilS,List.replicate_succ]
    intro t' ht'
    refine hK _ _ ?_
    simp only [blockQ,thenQ,if_true,if_false]
    subst hi0
    rw [hL0] at hend
    exact hend _ _ (.sl 1 1 [.v (.string ⟨b.toArray⟩)] (.own t' 0)) (by simp only [upd,g4,Nc,↓reduceIte]) (by simp only [upd,g0,Nc,↓reduceIte]) (by simp only [upd,Nc,↓reduceIte]) (.inr ⟨t',0,rfl,by simp [AS.gain],own_none_le hle ht'⟩) (AS.le_gain hle (own_none_le hle ht') 0)
   ·refine wE fun K hK=>?_
    simp only [↓DN,Qa,Qb,Qc,Qd,Qe,Qf,Qg,Qh,reduceCtorEq,↓reduceIte,Na,Nb,Nc,Nk,Nf,Ng,Nh,Za,Zb,Zc,TT,g3,g4,g0,hge,eye_lt_nat,hi',hat',ht',List.replicate_succ]
    refine ⟨by omega,by omega,hK _ _ ?_⟩
    simp only [blockQ,thenQ,if_true,if_false]
    exact hend _ _ (.sl 1 (i + 1) (L ++ [.v (.string ⟨b.toArray⟩)]) (.own t' (e + 1))) (by simp only [upd,g4,Nc,↓reduceIte]) (by simp only [upd,g0,Nc,↓reduceIte]) (by simp only [upd,Nc,↓reduceIte]) (.inr ⟨t',e + 1,rfl,by simp [AS.gain],ht0⟩) (AS.le_gain hle ht0 (e + 1))
  ·refine wS fun K hK=>?_
   simp only [↓DN,Qa,Qb,Qc,Qd,Qe,Qf,Qg,Qh,reduceCtorEq,↓reduceIte,Na,Nb,Nc,Nk,Nf,Ng,Nh,Za,Zb,Zc,TT,g4,g0,eye_lt_nat,decide_eq_false hi']
   refine hK _ _ ?_;clear hK K
   refine wC fun X Y hX hY=>?_
   simp only [UP,DF,Nc,↓reduceIte,DB]
   refine hY ?_;clear hX hY X Y
   refine awp_exit ?_
   simp only [thenQ,blockQ,if_true]
   refine hK _ _ ?_;clear hK hK2 K2 K
   obtain rfl : i = l.length:=by omega
   rw [List.take_length] at hx
   refine wS fun K hK=>?_
   simp only [↓DN,Qa,Qb,Qc,Qd,Qe,Qf,Qg,Qh,reduceCtorEq,↓reduceIte,Na,Nb,Nc,Nk,Nf,Ng,Nh,Za,Zb,Zc,TT,g3]
   refine hK _ _ ?_;clear hK K
   refine awp_ret ?_
   try simp only [thenQ,blockQ]
   simp only [retQ,AEnds,aresL,ares,List.toList_toArray,↓upd_same]; try simp only [UP,DF,Nc,↓reduceIte,DT]
   exact ⟨_,_,hx.weak,hle,rfl,rfl⟩
theorem refInts_calls (a b : List Int) (hl : a.length≤2 ^ 61) (s : AS) : ACalls Try.prog Γ 30 [intsV a .any,intsV b .any] s (fun r s'=>r = .v (.bool (decide (a = b)))∧s' = s):=by
 refine acalls_body Try.func30 rfl Try.ntmps30 Try.results30 (by simp) ?_
 unfold intsV
 refine wS fun K hK=>?_
 simp only [↓DN,Qa,Qb,Qc,Qd,Qe,Qf,Qg,Qh,reduceCtorEq,↓reduceIte,Na,Nb,Nc,Nk,Nf,Ng,Nh,Za,Zb,Zc,TT]
 refine hK _ _ ?_;clear hK K
 refine wK fun K hK=>?_
 by_cases h0 : a.length = b.length
 ·refine wS fun K hK=>?_
  simp only [↓DN,Qa,Qb,Qc,Qd,Qe,Qf,Qg,Qh,reduceCtorEq,↓reduceIte,Na,Nb,Nc,Nk,Nf,Ng,Nh,Za,Zb,Zc,TT,len_bne_false h0]
  refine hK _ _ ?_;clear hK K
  refine wC fun X Y hX hY=>?_
  simp only [UP,DF,Nc,↓reduceIte,DB]
  refine hY ?_;clear hX hY X Y
  refine awp_skip ?_
  refine hK _ _ ?_;clear hK K
  refine wK fun K hK=>?_
  refine wS fun K hK=>?_
  simp only [↓DN,Qa,Qb,Qc,Qd,Qe,Qf,Qg,Qh,reduceCtorEq,↓reduceIte,Na,Nb,Nc,Nk,Nf,Ng,Nh,Za,Zb,Zc,TT]
  refine hK _ _ ?_;clear hK K
  refine awp_block ?_
  refine awp_loop (fun E s1=>∃ i : Nat,i≤a.length∧E 5 = .v (.int .i64 i)∧E 0 = .sl 1 a.length (a.map intC) .any∧E 1 = .sl 1 b.length (b.map intC) .any∧a.take i = b.take i∧s1 = s)
   (fun E _=>match E 5 with | .v (.int _ i)=>a.length - i.toNat | _=>0) ?_ ?_
  ·exact ⟨0,Nat.zero_le _,by simp [upd],by simp [upd,initE],by simp [upd,initE],rfl,rfl⟩
  ·rintro E1 s1 ⟨i,hi,h5,h00,h1,he,rfl⟩ -
   refine wK fun K2 hK2=>?_
   by_cases hi' : i < a.length
   ·have hib : i < b.length:=by omega
    refine wS fun K hK=>?_
    simp only [↓DN,Qa,Qb,Qc,Qd,Qe,Qf,Qg,Qh,reduceCtorEq,↓reduceIte,Na,Nb,Nc,Nk,Nf,Ng,Nh,Za,Zb,Zc,TT,h5,h00,eye_lt_nat,decide_eq_true hi']
    refine hK _ _ ?_;clear hK K
    refine wC fun X Y hX hY=>?_
    simp only [UP,DF,Nc,↓reduceIte,DB]
    refine hX ?_;clear hX hY X Y
    refine awp_skip ?_
    refine hK2 _ _ ?_;clear hK2 K2
    refine wK fun K3 hK3=>?_
    refine awp_block ?_
    have hge : (0 : Int)≤(i : Int):=by omega
    have hat:=eat_int hi'
    have hbt:=eat_int hib
    by_cases hx : a[i] = b[i]
    ·refine awp_drw_seq T.mixed [] (by kernel_rfl) ?_
     intro K hK
     simp only [↓DM,pval,DX,Nz,↓DN,Qa,Qb,Qc,Qd,Qe,Qf,Qg,Qh,reduceCtorEq,↓reduceIte,Na,Nb,Nc,Nk,Nf,Ng,Nh,Za,Zb,Zc,TT,h5,h00,h1,hge,eye_lt_nat,hi',hib,hat,hbt,int_bne_false hx]
     refine hK _ _ ?_;clear hK K
     refine wC fun X Y hX hY=>?_
     simp only [UP,DF,Nc,↓reduceIte,DB]
     refine hY ?_;clear hX hY X Y
     refine awp_skip ?_
     simp only [blockQ,thenQ,if_true,if_false]
     refine hK3 _ _ ?_;clear hK3 K3
     refine wE fun K hK=>?_
     simp only [↓DN,Qa,Qb,Qc,Qd,Qe,Qf,Qg,Qh,reduceCtorEq,↓reduceIte,Na,Nb,Nc,Nk,Nf,Ng,Nh,Za,Zb,Zc,TT,h5,eye_succM i (by omega)]
     refine hK _ _ ?_;clear hK K
     refine ⟨⟨i + 1,by omega,by simp only [upd,↓reduceIte],by simp only [upd,h00,Nc,↓reduceIte],by simp only [upd,h1,Nc,↓reduceIte],take_eq_succ hi' hib he hx,rfl⟩,?_⟩
     simp only [h5,upd,↓reduceIte]
     omega
    ·refine awp_drw_seq T.mixed [] (by kernel_rfl) ?_
     intro K hK
     simp only [↓DM,pval,DX,Nz,↓DN,Qa,Qb,Qc,Qd,Qe,Qf,Qg,Qh,reduceCtorEq,↓reduceIte,Na,Nb,Nc,Nk,Nf,Ng,Nh,Za,Zb,Zc,TT,h5,h00,h1,hge,eye_lt_nat,hi',hib,hat,hbt,int_bne_true hx]
     refine hK _ _ ?_;clear hK K
     refine wC fun X Y hX hY=>?_
     simp only [UP,DF,Nc,↓reduceIte,DB]
     refine hX ?_;clear hX hY X Y
     refine wS fun K hK=>?_
     simp only [↓DN,Qa,Qb,Qc,Qd,Qe,Qf,Qg,Qh,reduceCtorEq,↓reduceIte,Na,Nb,Nc,Nk,Nf,Ng,Nh,Za,Zb,Zc,TT]
     refine hK _ _ ?_;clear hK K
     refine awp_ret ?_
     simp only [thenQ,blockQ]
     simp only [retQ,AEnds,aresL,ares,List.toList_toArray,↓upd_same]; try simp only [UP,DF,Nc,↓reduceIte,DT]
     refine ⟨_,_,AV.weak.refl _,AS.le.refl _,?_,rfl⟩
     rw [decide_eq_false]
     intro e
     subst e
     exact hx rfl
   ·refine wS fun K hK=>?_
    simp only [↓DN,Qa,Qb,Qc,Qd,Qe,Qf,Qg,Qh,reduceCtorEq,↓reduceIte,Na,Nb,Nc,Nk,Nf,Ng,Nh,Za,Zb,Zc,TT,h5,h00,eye_lt_nat,decide_eq_false hi']
    refine hK _ _ ?_;clear hK K
    refine wC fun X Y hX hY=>?_
    simp only [UP,DF,Nc,↓reduceIte,DB]
    refine hY ?_;clear hX hY X Y
    refine awp_exit ?_
    simp only [thenQ,blockQ,if_true]
    refine hK _ _ ?_;clear hK hK2 K K2
    refine wS fun K hK=>?_
    simp only [↓DN,Qa,Qb,Qc,Qd,Qe,Qf,Qg,Qh,reduceCtorEq,↓reduceIte,Na,Nb,Nc,Nk,Nf,Ng,Nh,Za,Zb,Zc,TT]
    refine hK _ _ ?_;clear hK K
    refine awp_ret ?_
    simp only [retQ,AEnds,aresL,ares,List.toList_toArray,↓upd_same]; try simp only [UP,DF,Nc,↓reduceIte,DT]
    refine ⟨_,_,AV.weak.refl _,AS.le.refl _,?_,rfl⟩
    rw [List.take_of_length_le (by omega),List.take_of_length_le (by omega)] at he
    rw [decide_eq_true he]
 ·refine wS fun K hK=>?_
  simp only [↓DN,Qa,Qb,Qc,Qd,Qe,Qf,Qg,Qh,reduceCtorEq,↓reduceIte,Na,Nb,Nc,Nk,Nf,Ng,Nh,Za,Zb,Zc,TT,len_bne_true h0]
  refine hK _ _ ?_;clear hK K
  refine wC fun X Y hX hY=>?_
  simp only [UP,DF,Nc,↓reduceIte,DB]
  refine hX ?_;clear hX hY X Y
  refine wS fun K hK=>?_
  simp only [↓DN,Qa,Qb,Qc,Qd,Qe,Qf,Qg,Qh,reduceCtorEq,↓reduceIte,Na,Nb,Nc,Nk,Nf,Ng,Nh,Za,Zb,Zc,TT]
  refine hK _ _ ?_;clear hK K
  refine awp_ret ?_
  simp only [retQ,AEnds,aresL,ares,List.toList_toArray,↓upd_same]; try simp only [UP,DF,Nc,↓reduceIte,DT]
  refine ⟨_,_,AV.weak.refl _,AS.le.refl _,?_,rfl⟩
  rw [decide_eq_false (fun e=>h0 (by rw [e]))]
  try rfl
theorem refSame01_calls (a b : List (List UInt8)) (hl : a.length≤2 ^ 61) (s : AS) : ACalls Try.prog Γ 28 [strsV a,strsV b] s (fun r s'=>r = .v (.bool (decide (a = b)))∧s' = s):=by
 refine acalls_body Try.func28 rfl Try.ntmps28 Try.results28 (by simp) ?_
 have hA:=fun (i : Nat) (hi : i < a.length)=>take_map strC hi
 have hB:=fun (i : Nat) (hi : i < b.length)=>take_map strC hi
 unfold strsV
 generalize a.map strC = XA at *
 generalize b.map strC = XB at *
 refine wS fun K hK=>?_
 simp only [↓DN,Qa,Qb,Qc,Qd,Qe,Qf,Qg,Qh,reduceCtorEq,↓reduceIte,Na,Nb,Nc,Nk,Nf,Ng,Nh,Za,Zb,Zc,TT]
 refine hK _ _ ?_;clear hK K
 refine wK fun K hK=>?_
 by_cases h0 : a.length = b.length
 ·refine wS fun K hK=>?_
  simp only [↓DN,Qa,Qb,Qc,Qd,Qe,Qf,Qg,Qh,reduceCtorEq,↓reduceIte,Na,Nb,Nc,Nk,Nf,Ng,Nh,Za,Zb,Zc,TT,len_bne_false h0]
  refine hK _ _ ?_;clear hK K
  refine wC fun X Y hX hY=>?_
  simp only [UP,DF,Nc,↓reduceIte,DB]
  refine hY ?_;clear hX hY X Y
  refine awp_skip ?_
  refine hK _ _ ?_;clear hK K
  refine wK fun K hK=>?_
  refine wS fun K hK=>?_
  simp only [↓DN,Qa,Qb,Qc,Qd,Qe,Qf,Qg,Qh,reduceCtorEq,↓reduceIte,Na,Nb,Nc,Nk,Nf,Ng,Nh,Za,Zb,Zc,TT]
  refine hK _ _ ?_;clear hK K
  refine awp_block ?_
  refine awp_loop (fun E s1=>∃ i : Nat,i≤a.length∧E 5 = .v (.int .i64 i)∧E 0 = .sl 1 a.length XA .any∧E 1 = .sl 1 b.length XB .any∧a.take i = b.take i∧s1 = s)
   (fun E _=>match E 5 with | .v (.int _ i)=>a.length - i.toNat | _=>0) ?_ ?_
  ·exact ⟨0,Nat.zero_le _,by simp only [upd,Nc,↓reduceIte]; rfl,by simp only [upd,initE,List.getD_cons_zero,List.getD_cons_succ,Nc,↓reduceIte],by simp only [upd,initE,List.getD_cons_zero,List.getD_cons_succ,Nc,↓reduceIte],rfl,rfl⟩
  ·rintro E1 s1 ⟨i,hi,h5,h00,h1,he,rfl⟩ -
   refine wK fun K2 hK2=>?_
   by_cases hi' : i < a.length
   ·have hib : i < b.length:=by omega
    refine wS fun K hK=>?_
    simp only [↓DN,Qa,Qb,Qc,Qd,Qe,Qf,Qg,Qh,reduceCtorEq,↓reduceIte,Na,Nb,Nc,Nk,Nf,Ng,Nh,Za,Zb,Zc,TT,h5,h00,eye_lt_nat,decide_eq_true hi']
    refine hK _ _ ?_;clear hK K
    refine wC fun X Y hX hY=>?_
    simp only [UP,DF,Nc,↓reduceIte,DB]
    refine hX ?_;clear hX hY X Y
    refine awp_skip ?_
    refine hK2 _ _ ?_;clear hK2 K2
    refine wK fun K3 hK3=>?_
    refine awp_block ?_
    have hge : (0 : Int)≤(i : Int):=by omega
    have hat:=hA i hi'
    have hbt:=hB i hib
    have h2 : a[i] = b[i]→a.take (i + 1) = b.take (i + 1):=fun q=>by rw [List.take_succ_eq_append_getElem hi',List.take_succ_eq_append_getElem hib,he,q]
    have h3 : a[i]≠b[i]→a≠b:=fun q e=>q (by subst e; rfl)
    generalize a[i] = x at *
    generalize b[i] = y at *
    unfold strC at hat hbt
    have hT : x = y→(!(x == y)) = false:=fun q=>by subst q; simp
    have hF : x≠y→(!(x == y)) = true:=fun q=>by simpa using q
    by_cases hx : x = y
    ·have hz:=hT hx
     refine awp_drw_seq T.mixed [] (by kernel_rfl) ?_
     intro K hK
     simp only [↓DM,pval,DX,Nz,↓DN,Qa,Qb,Qc,Qd,Qe,Qf,Qg,Qh,reduceCtorEq,↓reduceIte,Na,Nb,Nc,Nk,Nf,Ng,Nh,Za,Zb,Zc,TT,h5,h00,h1,hge,eye_lt_nat,hi',hib,hat,hbt,hz]
     refine hK _ _ ?_;clear hK K
     refine wC fun X Y hX hY=>?_
     simp only [UP,DF,Nc,↓reduceIte,DB]
     refine hY ?_;clear hX hY X Y
     refine awp_skip ?_
     simp only [blockQ,thenQ,if_true,if_false]
     refine hK3 _ _ ?_;clear hK3 K3
     refine wE fun K hK=>?_
     simp only [↓DN,Qa,Qb,Qc,Qd,Qe,Qf,Qg,Qh,reduceCtorEq,↓reduceIte,Na,Nb,Nc,Nk,Nf,Ng,Nh,Za,Zb,Zc,TT,h5,eye_succM i (by omega)]
     refine hK _ _ ?_;clear hK K
     refine ⟨⟨i + 1,by omega,by simp only [upd,Nc,↓reduceIte],by simp only [upd,h00,Nc,↓reduceIte],by simp only [upd,h1,Nc,↓reduceIte],h2 hx,rfl⟩,?_⟩
     simp only [h5,upd,↓reduceIte]
     omega
    ·have hz:=hF hx
     refine awp_drw_seq T.mixed [] (by kernel_rfl) ?_
     intro K hK
     simp only [↓DM,pval,DX,Nz,↓DN,Qa,Qb,Qc,Qd,Qe,Qf,Qg,Qh,reduceCtorEq,↓reduceIte,Na,Nb,Nc,Nk,Nf,Ng,Nh,Za,Zb,Zc,TT,h5,h00,h1,hge,eye_lt_nat,hi',hib,hat,hbt,hz]
     refine hK _ _ ?_;clear hK K
     refine wC fun X Y hX hY=>?_
     simp only [UP,DF,Nc,↓reduceIte,DB]
     refine hX ?_;clear hX hY X Y
     refine wS fun K hK=>?_
     simp only [↓DN,Qa,Qb,Qc,Qd,Qe,Qf,Qg,Qh,reduceCtorEq,↓reduceIte,Na,Nb,Nc,Nk,Nf,Ng,Nh,Za,Zb,Zc,TT]
     refine hK _ _ ?_;clear hK K
     refine awp_ret ?_
     try simp only [thenQ,blockQ]
     simp only [retQ,AEnds,aresL,ares,List.toList_toArray,↓upd_same]; try simp only [UP,DF,Nc,↓reduceIte,DT]
     rw [decide_eq_false (h3 hx)]
     exact ⟨_,_,AV.weak.refl _,AS.le.refl _,rfl,rfl⟩
   ·refine wS fun K hK=>?_
    simp only [↓DN,Qa,Qb,Qc,Qd,Qe,Qf,Qg,Qh,reduceCtorEq,↓reduceIte,Na,Nb,Nc,Nk,Nf,Ng,Nh,Za,Zb,Zc,TT,h5,h00,eye_lt_nat,decide_eq_false hi']
    refine hK _ _ ?_;clear hK K
    refine wC fun X Y hX hY=>?_
    simp only [UP,DF,Nc,↓reduceIte,DB]
    refine hY ?_;clear hX hY X Y
    refine awp_exit ?_
    simp only [thenQ,blockQ,if_true]
    refine hK _ _ ?_;clear hK hK2 K2 K
    rw [List.take_of_length_le (by omega),List.take_of_length_le (by omega)] at he
    refine wS fun K hK=>?_
    simp only [↓DN,Qa,Qb,Qc,Qd,Qe,Qf,Qg,Qh,reduceCtorEq,↓reduceIte,Na,Nb,Nc,Nk,Nf,Ng,Nh,Za,Zb,Zc,TT]
    refine hK _ _ ?_;clear hK K
    refine awp_ret ?_
    try simp only [thenQ,blockQ]
    simp only [retQ,AEnds,aresL,ares,List.toList_toArray,↓upd_same]; try simp only [UP,DF,Nc,↓reduceIte,DT]
    rw [decide_eq_true he]
    exact ⟨_,_,AV.weak.refl _,AS.le.refl _,rfl,rfl⟩
 ·refine wS fun K hK=>?_
  simp only [↓DN,Qa,Qb,Qc,Qd,Qe,Qf,Qg,Qh,reduceCtorEq,↓reduceIte,Na,Nb,Nc,Nk,Nf,Ng,Nh,Za,Zb,Zc,TT,len_bne_true h0]
  refine hK _ _ ?_;clear hK K
  refine wC fun X Y hX hY=>?_
  simp only [UP,DF,Nc,↓reduceIte,DB]
  refine hX ?_;clear hX hY X Y
  refine wS fun K hK=>?_
  simp only [↓DN,Qa,Qb,Qc,Qd,Qe,Qf,Qg,Qh,reduceCtorEq,↓reduceIte,Na,Nb,Nc,Nk,Nf,Ng,Nh,Za,Zb,Zc,TT]
  refine hK _ _ ?_;clear hK K
  refine awp_ret ?_
  try simp only [thenQ,blockQ]
  simp only [retQ,AEnds,aresL,ares,List.toList_toArray,↓upd_same]; try simp only [UP,DF,Nc,↓reduceIte,DT]
  rw [decide_eq_false (fun e=>h0 (by rw [e]))]
  exact ⟨_,_,AV.weak.refl _,AS.le.refl _,rfl,rfl⟩
theorem entNe (x y : EntV) : aeqS Try.prog 54 .neq x.cells y.cells = some (.v (.bool (decide (x≠y)))):=by
 have h : aeqS Try.prog 54 .neq x.cells y.cells = some (.v (.bool (!((x.place == y.place) && ((x.kind == y.kind) && ((x.epoch == y.epoch) && ((x.time == y.time) && ((x.bucket == y.bucket) && true)))))))):=by
  kernel_rfl
 rw [h]
 obtain ⟨a1,a2,a3,a4,a5⟩:=x
 obtain ⟨b1,b2,b3,b4,b5⟩:=y
 simp only [EntV.mk.injEq,ne_eq,Option.some.injEq,AV.v.injEq,Value.bool.injEq]
 rw [Bool.eq_iff_iff]
 simp
theorem refSame28_calls (a b : List EntV) (hl : a.length≤2 ^ 61) (s : AS) : ACalls Try.prog Γ 33 [entsV a,entsV b] s (fun r s'=>r = .v (.bool (decide (a = b)))∧s' = s):=by
 refine acalls_body Try.func33 rfl Try.ntmps33 Try.results33 (by simp) ?_
 have hA:=fun (i : Nat) (hi : i < a.length)=>row_at (c:=EntV.cells) (k:=5) (fun _=>rfl) hi
 have hB:=fun (i : Nat) (hi : i < b.length)=>row_at (c:=EntV.cells) (k:=5) (fun _=>rfl) hi
 unfold entsV
 generalize rowC EntV.cells a = XA at *
 generalize rowC EntV.cells b = XB at *
 refine wS fun K hK=>?_
 simp only [↓DN,Qa,Qb,Qc,Qd,Qe,Qf,Qg,Qh,reduceCtorEq,↓reduceIte,Na,Nb,Nc,Nk,Nf,Ng,Nh,Za,Zb,Zc,TT]
 refine hK _ _ ?_;clear hK K
 refine wK fun K hK=>?_
 by_cases h0 : a.length = b.length
 ·refine wS fun K hK=>?_
  simp only [↓DN,Qa,Qb,Qc,Qd,Qe,Qf,Qg,Qh,reduceCtorEq,↓reduceIte,Na,Nb,Nc,Nk,Nf,Ng,Nh,Za,Zb,Zc,TT,len_bne_false h0]
  refine hK _ _ ?_;clear hK K
  refine wC fun X Y hX hY=>?_
  simp only [UP,DF,Nc,↓reduceIte,DB]
  refine hY ?_;clear hX hY X Y
  refine awp_skip ?_
  refine hK _ _ ?_;clear hK K
  refine wK fun K hK=>?_
  refine wS fun K hK=>?_
  simp only [↓DN,Qa,Qb,Qc,Qd,Qe,Qf,Qg,Qh,reduceCtorEq,↓reduceIte,Na,Nb,Nc,Nk,Nf,Ng,Nh,Za,Zb,Zc,TT]
  refine hK _ _ ?_;clear hK K
  refine awp_block ?_
  refine awp_loop (fun E s1=>∃ i : Nat,i≤a.length∧E 5 = .v (.int .i64 i)∧E 0 = .sl 5 a.length XA .any∧E 1 = .sl 5 b.length XB .any∧a.take i = b.take i∧s1 = s)
   (fun E _=>match E 5 with | .v (.int _ i)=>a.length - i.toNat | _=>0) ?_ ?_
  ·exact ⟨0,Nat.zero_le _,by simp only [upd,Nc,↓reduceIte]; rfl,by simp only [upd,initE,List.getD_cons_zero,List.getD_cons_succ,Nc,↓reduceIte],by simp only [upd,initE,List.getD_cons_zero,List.getD_cons_succ,Nc,↓reduceIte],rfl,rfl⟩
  ·rintro E1 s1 ⟨i,hi,h5,h00,h1,he,rfl⟩ -
   refine wK fun K2 hK2=>?_
   by_cases hi' : i < a.length
   ·have hib : i < b.length:=by omega
    refine wS fun K hK=>?_
    simp only [↓DN,Qa,Qb,Qc,Qd,Qe,Qf,Qg,Qh,reduceCtorEq,↓reduceIte,Na,Nb,Nc,Nk,Nf,Ng,Nh,Za,Zb,Zc,TT,h5,h00,eye_lt_nat,decide_eq_true hi']
    refine hK _ _ ?_;clear hK K
    refine wC fun X Y hX hY=>?_
    simp only [UP,DF,Nc,↓reduceIte,DB]
    refine hX ?_;clear hX hY X Y
    refine awp_skip ?_
    refine hK2 _ _ ?_;clear hK2 K2
    refine wK fun K3 hK3=>?_
    refine awp_block ?_
    have hge : (0 : Int)≤(i : Int):=by omega
    have hat:=hA i hi'
    have hbt:=hB i hib
    have h2 : a[i] = b[i]→a.take (i + 1) = b.take (i + 1):=fun q=>by rw [List.take_succ_eq_append_getElem hi',List.take_succ_eq_append_getElem hib,he,q]
    have h3 : a[i]≠b[i]→a≠b:=fun q e=>q (by subst e; rfl)
    generalize a[i] = x at *
    generalize b[i] = y at *
    have hT : x = y→aeqS Try.prog 54 .neq x.cells y.cells = some (.v (.bool false)):=fun q=>by rw [entNe,q]; simp
    have hF : x≠y→aeqS Try.prog 54 .neq x.cells y.cells = some (.v (.bool true)):=fun q=>by rw [entNe]; simpa using q
    unfold EntV.cells at hat hbt hT hF
    by_cases hx : x = y
    ·have hz:=hT hx
     refine awp_drw_seq T.mixed [] (by kernel_rfl) ?_
     intro K hK
     simp only [↓DM,pval,DX,Nz,↓DN,Qa,Qb,Qc,Qd,Qe,Qf,Qg,Qh,reduceCtorEq,↓reduceIte,Na,Nb,Nc,Nk,Nf,Ng,Nh,Za,Zb,Zc,TT,h5,h00,h1,hge,eye_lt_nat,hi',hib,hat,hbt,hz]
     refine hK _ _ ?_;clear hK K
     refine wC fun X Y hX hY=>?_
     simp only [UP,DF,Nc,↓reduceIte,DB]
     refine hY ?_;clear hX hY X Y
     refine awp_skip ?_
     simp only [blockQ,thenQ,if_true,if_false]
     refine hK3 _ _ ?_;clear hK3 K3
     refine wE fun K hK=>?_
     simp only [↓DN,Qa,Qb,Qc,Qd,Qe,Qf,Qg,Qh,reduceCtorEq,↓reduceIte,Na,Nb,Nc,Nk,Nf,Ng,Nh,Za,Zb,Zc,TT,h5,eye_succM i (by omega)]
     refine hK _ _ ?_;clear hK K
     refine ⟨⟨i + 1,by omega,by simp only [upd,Nc,↓reduceIte],by simp only [upd,h00,Nc,↓reduceIte],by simp only [upd,h1,Nc,↓reduceIte],h2 hx,rfl⟩,?_⟩
     simp only [h5,upd,↓reduceIte]
     omega
    ·have hz:=hF hx
     refine awp_drw_seq T.mixed [] (by kernel_rfl) ?_
     intro K hK
     simp only [↓DM,pval,DX,Nz,↓DN,Qa,Qb,Qc,Qd,Qe,Qf,Qg,Qh,reduceCtorEq,↓reduceIte,Na,Nb,Nc,Nk,Nf,Ng,Nh,Za,Zb,Zc,TT,h5,h00,h1,hge,eye_lt_nat,hi',hib,hat,hbt,hz]
     refine hK _ _ ?_;clear hK K
     refine wC fun X Y hX hY=>?_
     simp only [UP,DF,Nc,↓reduceIte,DB]
     refine hX ?_;clear hX hY X Y
     refine wS fun K hK=>?_
     simp only [↓DN,Qa,Qb,Qc,Qd,Qe,Qf,Qg,Qh,reduceCtorEq,↓reduceIte,Na,Nb,Nc,Nk,Nf,Ng,Nh,Za,Zb,Zc,TT]
     refine hK _ _ ?_;clear hK K
     refine awp_ret ?_
     try simp only [thenQ,blockQ]
     simp only [retQ,AEnds,aresL,ares,List.toList_toArray,↓upd_same]; try simp only [UP,DF,Nc,↓reduceIte,DT]
     rw [decide_eq_false (h3 hx)]
     exact ⟨_,_,AV.weak.refl _,AS.le.refl _,rfl,rfl⟩
   ·refine wS fun K hK=>?_
    simp only [↓DN,Qa,Qb,Qc,Qd,Qe,Qf,Qg,Qh,reduceCtorEq,↓reduceIte,Na,Nb,Nc,Nk,Nf,Ng,Nh,Za,Zb,Zc,TT,h5,h00,eye_lt_nat,decide_eq_false hi']
    refine hK _ _ ?_;clear hK K
    refine wC fun X Y hX hY=>?_
    simp only [UP,DF,Nc,↓reduceIte,DB]
    refine hY ?_;clear hX hY X Y
    refine awp_exit ?_
    simp only [thenQ,blockQ,if_true]
    refine hK _ _ ?_;clear hK hK2 K2 K
    rw [List.take_of_length_le (by omega),List.take_of_length_le (by omega)] at he
    refine wS fun K hK=>?_
    simp only [↓DN,Qa,Qb,Qc,Qd,Qe,Qf,Qg,Qh,reduceCtorEq,↓reduceIte,Na,Nb,Nc,Nk,Nf,Ng,Nh,Za,Zb,Zc,TT]
    refine hK _ _ ?_;clear hK K
    refine awp_ret ?_
    try simp only [thenQ,blockQ]
    simp only [retQ,AEnds,aresL,ares,List.toList_toArray,↓upd_same]; try simp only [UP,DF,Nc,↓reduceIte,DT]
    rw [decide_eq_true he]
    exact ⟨_,_,AV.weak.refl _,AS.le.refl _,rfl,rfl⟩
 ·refine wS fun K hK=>?_
  simp only [↓DN,Qa,Qb,Qc,Qd,Qe,Qf,Qg,Qh,reduceCtorEq,↓reduceIte,Na,Nb,Nc,Nk,Nf,Ng,Nh,Za,Zb,Zc,TT,len_bne_true h0]
  refine hK _ _ ?_;clear hK K
  refine wC fun X Y hX hY=>?_
  simp only [UP,DF,Nc,↓reduceIte,DB]
  refine hX ?_;clear hX hY X Y
  refine wS fun K hK=>?_
  simp only [↓DN,Qa,Qb,Qc,Qd,Qe,Qf,Qg,Qh,reduceCtorEq,↓reduceIte,Na,Nb,Nc,Nk,Nf,Ng,Nh,Za,Zb,Zc,TT]
  refine hK _ _ ?_;clear hK K
  refine awp_ret ?_
  try simp only [thenQ,blockQ]
  simp only [retQ,AEnds,aresL,ares,List.toList_toArray,↓upd_same]; try simp only [UP,DF,Nc,↓reduceIte,DT]
  rw [decide_eq_false (fun e=>h0 (by rw [e]))]
  exact ⟨_,_,AV.weak.refl _,AS.le.refl _,rfl,rfl⟩
end Go.Proofs.Ytfbbckndpkmfcaa
namespace Go.Proofs.Ytfbbckndpkmfcaa
open Go Go.AM Go.Proofs
variable {Γ : Nat→List AV}
theorem refShr_calls {s : AS} {p : Nat} {l : List Rec} (h : s.objs p = some [recsV l]) (hl : l.length≤2 ^ 40) (b : Int) : ACalls Try.prog Γ 14 [.ptr p 0,.v (.int .i64 b)] s (fun r s'=>r = .v (.bool (shrR b l))∧s' = s):=by
 refine acalls_body Try.func14 rfl Try.ntmps14 Try.results14 (by simp) ?_
 have hrow:=fun i (h : i < l.length)=>row_at (c:=Rec.cells) (k:=9) (fun _=>rfl) h
 unfold recsV at h
 generalize rowC Rec.cells l = X at *
 refine wS fun K hK=>?_
 simp only [↓DN,Qa,Qb,Qc,Qd,Qe,Qf,Qg,Qh,reduceCtorEq,↓reduceIte,Na,Nb,Nc,Nk,Nf,Ng,Nh,Za,Zb,Zc,TT]
 refine hK _ _ ?_;clear hK K
 refine wK fun K hK=>?_
 refine wS fun K hK=>?_
 simp only [↓DN,Qa,Qb,Qc,Qd,Qe,Qf,Qg,Qh,reduceCtorEq,↓reduceIte,Na,Nb,Nc,Nk,Nf,Ng,Nh,Za,Zb,Zc,TT]
 refine hK _ _ ?_;clear hK K
 refine awp_block ?_
 refine awp_loop (fun E s'=>∃ i : Nat,i≤l.length∧E 5 = .v (.int .i64 i)∧E 0 = .ptr p 0∧E 1 = .v (.int .i64 b)∧shrR b (l.take i) = false∧s' = s)
  (fun E _=>match E 5 with | .v (.int _ i)=>l.length - i.toNat | _=>0) ?_ ?_
 ·exact ⟨0,Nat.zero_le _,by simp only [upd,Nc,↓reduceIte]; rfl,by simp only [upd,initE,List.getD_cons_zero,List.getD_cons_succ,Nc,↓reduceIte],by simp only [upd,initE,List.getD_cons_zero,List.getD_cons_succ,Nc,↓reduceIte],rfl,rfl⟩
 rintro E1 s1 ⟨i,hi,g5,g0,g1,hno,rfl⟩ -
 refine wK fun K2 hK2=>?_
 by_cases hi' : i < l.length
 ·refine wS fun K hK=>?_
  simp only [↓DN,Qa,Qb,Qc,Qd,Qe,Qf,Qg,Qh,reduceCtorEq,↓reduceIte,Na,Nb,Nc,Nk,Nf,Ng,Nh,Za,Zb,Zc,TT,g5,g0,h,eye_lt_nat,decide_eq_true hi']
  refine hK _ _ ?_;clear hK K
  refine wC fun X Y hX hY=>?_
  simp only [UP,DF,Nc,↓reduceIte,DB]
  refine hX ?_;clear hX hY X Y
  refine awp_skip ?_
  refine hK2 _ _ ?_;clear hK2 K2
  refine wK fun K3 hK3=>?_
  refine awp_block ?_
  have hge : (0 : Int)≤((i : Nat) : Int):=by omega
  have hat:=hrow i hi'
  have htk : shrR b (l.take (i + 1)) = decide (l[i].kind = 3∧l[i].bucket = b):=by rw [List.take_succ_eq_append_getElem hi',shrR_snoc,hno,Bool.false_or]
  have hyes : l[i].kind = 3→l[i].bucket = b→shrR b l = true:=fun q1 q2=>List.any_eq_true.2 ⟨l[i],List.getElem_mem hi',by simp [q1,q2]⟩
  have hend : ∀ E : Env,E 5 = .v (.int .i64 i)→E 0 = .ptr p 0→E 1 = .v (.int .i64 b)→¬ (l[i].kind = 3∧l[i].bucket = b)→K3 E s1:=by
   intro E f5 f0 f1 hn
   refine hK3 _ _ ?_;clear hK3 K3
   refine wE fun K hK=>?_
   simp only [↓DN,Qa,Qb,Qc,Qd,Qe,Qf,Qg,Qh,reduceCtorEq,↓reduceIte,Na,Nb,Nc,Nk,Nf,Ng,Nh,Za,Zb,Zc,TT,f5,eye_succM i (by omega)]
   refine hK _ _ ?_;clear hK K
   refine ⟨⟨i + 1,hi',by simp only [upd,Nc,↓reduceIte],by simp only [upd,f0,Nc,↓reduceIte],by simp only [upd,f1,Nc,↓reduceIte],by rw [htk,decide_eq_false hn],rfl⟩,?_⟩
   simp only [g5,upd,↓reduceIte]
   omega
  clear hK3 htk
  generalize l[i] = r at *
  obtain ⟨rk,rg,re,rt,rb,ry,rtr,rsc,rw'⟩:=r
  unfold Rec.cells at *
  simp only at *
  by_cases h3 : rk = 3
  ·by_cases hb : rb = b
   ·refine wS fun K hK=>?_
    simp only [↓DN,Qa,Qb,Qc,Qd,Qe,Qf,Qg,Qh,reduceCtorEq,↓reduceIte,Na,Nb,Nc,Nk,Nf,Ng,Nh,Za,Zb,Zc,TT,g5,g0,g1,h,hge,eye_lt_nat,hi',hat,int_eq_yes h3,int_eq_yes hb]
    refine hK _ _ ?_;clear hK K
    refine wC fun X Y hX hY=>?_
    simp only [UP,DF,Nc,↓reduceIte,DB]
    refine hX ?_;clear hX hY X Y
    refine wS fun K hK=>?_
    simp only [↓DN,Qa,Qb,Qc,Qd,Qe,Qf,Qg,Qh,reduceCtorEq,↓reduceIte,Na,Nb,Nc,Nk,Nf,Ng,Nh,Za,Zb,Zc,TT]
    refine hK _ _ ?_;clear hK K
    refine awp_ret ?_
    try simp only [thenQ,blockQ]
    simp only [retQ,AEnds,aresL,ares,List.toList_toArray,↓upd_same]; try simp only [UP,DF,Nc,↓reduceIte,DT]
    rw [hyes h3 hb]
    exact ⟨_,_,AV.weak.refl _,AS.le.refl _,rfl,rfl⟩
   ·refine wS fun K hK=>?_
    simp only [↓DN,Qa,Qb,Qc,Qd,Qe,Qf,Qg,Qh,reduceCtorEq,↓reduceIte,Na,Nb,Nc,Nk,Nf,Ng,Nh,Za,Zb,Zc,TT,g5,g0,g1,h,hge,eye_lt_nat,hi',hat,int_eq_yes h3,int_eq_no hb]
    refine hK _ _ ?_;clear hK K
    refine wC fun X Y hX hY=>?_
    simp only [UP,DF,Nc,↓reduceIte,DB]
    refine hY ?_;clear hX hY X Y
    refine awp_skip ?_
    simp only [blockQ,thenQ]
    exact hend _ (by simp only [upd,g5,Nc,↓reduceIte]) (by simp only [upd,g0,Nc,↓reduceIte]) (by simp only [upd,g1,Nc,↓reduceIte]) (fun q=>hb q.2)
  ·refine wS fun K hK=>?_
   simp only [↓DN,Qa,Qb,Qc,Qd,Qe,Qf,Qg,Qh,reduceCtorEq,↓reduceIte,Na,Nb,Nc,Nk,Nf,Ng,Nh,Za,Zb,Zc,TT,g5,g0,g1,h,hge,eye_lt_nat,hi',hat,int_eq_no h3]
   refine hK _ _ ?_;clear hK K
   refine wC fun X Y hX hY=>?_
   simp only [UP,DF,Nc,↓reduceIte,DB]
   refine hY ?_;clear hX hY X Y
   refine awp_skip ?_
   simp only [blockQ,thenQ]
   exact hend _ (by simp only [upd,g5,Nc,↓reduceIte]) (by simp only [upd,g0,Nc,↓reduceIte]) (by simp only [upd,g1,Nc,↓reduceIte]) (fun q=>h3 q.1)
 ·refine wS fun K hK=>?_
  simp only [↓DN,Qa,Qb,Qc,Qd,Qe,Qf,Qg,Qh,reduceCtorEq,↓reduceIte,Na,Nb,Nc,Nk,Nf,Ng,Nh,Za,Zb,Zc,TT,g5,g0,h,eye_lt_nat,decide_eq_false hi']
  refine hK _ _ ?_;clear hK K
  refine wC fun X Y hX hY=>?_
  simp only [UP,DF,Nc,↓reduceIte,DB]
  refine hY ?_;clear hX hY X Y
  refine awp_exit ?_
  simp only [thenQ,blockQ,if_true]
  refine hK _ _ ?_;clear hK hK2 K2 K
  rw [List.take_of_length_le (by omega)] at hno
  rw [hno]
  refine wS fun K hK=>?_
  simp only [↓DN,Qa,Qb,Qc,Qd,Qe,Qf,Qg,Qh,reduceCtorEq,↓reduceIte,Na,Nb,Nc,Nk,Nf,Ng,Nh,Za,Zb,Zc,TT]
  refine hK _ _ ?_;clear hK K
  refine awp_ret ?_
  try simp only [thenQ,blockQ]
  simp only [retQ,AEnds,aresL,ares,List.toList_toArray,↓upd_same]; try simp only [UP,DF,Nc,↓reduceIte,DT]
  exact ⟨_,_,AV.weak.refl _,AS.le.refl _,rfl,rfl⟩
theorem refTime_calls {s : AS} {p : Nat} {l : List Rec} (h : s.objs p = some [recsV l]) (hl : l.length≤2 ^ 40) : ACalls Try.prog Γ 24 [.ptr p 0] s (fun r s'=>r = .v (.int .i64 (timeR l))∧s' = s):=by
 refine acalls_body Try.func24 rfl Try.ntmps24 Try.results24 (by simp) ?_
 have hrow:=fun i (h : i < l.length)=>row_at (c:=Rec.cells) (k:=9) (fun _=>rfl) h
 unfold recsV at h
 rcases List.eq_nil_or_concat l with rfl | ⟨l',r,rfl⟩
 ·refine wS fun K hK=>?_
  simp only [↓DN,Qa,Qb,Qc,Qd,Qe,Qf,Qg,Qh,reduceCtorEq,↓reduceIte,Na,Nb,Nc,Nk,Nf,Ng,Nh,Za,Zb,Zc,TT]
  refine hK _ _ ?_;clear hK K
  refine wK fun K hK=>?_
  refine wS fun K hK=>?_
  simp only [↓DN,Qa,Qb,Qc,Qd,Qe,Qf,Qg,Qh,reduceCtorEq,↓reduceIte,Na,Nb,Nc,Nk,Nf,Ng,Nh,Za,Zb,Zc,TT,h,show (((0 : Nat) : Int) == 0) = true from rfl]
  refine hK _ _ ?_;clear hK K
  refine wC fun X Y hX hY=>?_
  simp only [UP,DF,Nc,↓reduceIte,DB]
  refine hX ?_;clear hX hY X Y
  refine wS fun K hK=>?_
  simp only [↓DN,Qa,Qb,Qc,Qd,Qe,Qf,Qg,Qh,reduceCtorEq,↓reduceIte,Na,Nb,Nc,Nk,Nf,Ng,Nh,Za,Zb,Zc,TT]
  refine hK _ _ ?_;clear hK K
  refine awp_ret ?_
  try simp only [thenQ,blockQ]
  simp only [retQ,AEnds,aresL,ares,List.toList_toArray,↓upd_same]; try simp only [UP,DF,Nc,↓reduceIte,DT]
  exact ⟨_,_,AV.weak.refl _,AS.le.refl _,rfl,rfl⟩
 ·rw [List.concat_eq_append,timeR_snoc] at *
  have hat:=hrow l'.length (by simp)
  have hlen : (l' ++ [r]).length = l'.length + 1:=by simp
  have h1 : (l' ++ [r])[l'.length]'(by simp) = r:=by simp
  rw [h1] at hat
  clear h1 hrow
  rw [hlen] at h hl
  clear hlen
  have e0 : (((l'.length + 1 : Nat) : Int) == 0) = false:=by rw [beq_eq_false_iff_ne]; omega
  have e1 : isub .i64 ((l'.length + 1 : Nat) : Int) 1 = (l'.length : Int):=by rw [dec_i64 (by omega) (by omega)]; omega
  have hge : (0 : Int)≤(l'.length : Int):=by omega
  have hlt : ((l'.length : Nat) : Int) < ((l'.length + 1 : Nat) : Int):=by omega
  generalize rowC Rec.cells (l' ++ [r]) = X at *
  obtain ⟨rk,rg,re,rt,rb,ry,rtr,rsc,rw'⟩:=r
  unfold Rec.cells at hat
  simp only at hat ⊢
  generalize l'.length = n at *
  refine wS fun K hK=>?_
  simp only [↓DN,Qa,Qb,Qc,Qd,Qe,Qf,Qg,Qh,reduceCtorEq,↓reduceIte,Na,Nb,Nc,Nk,Nf,Ng,Nh,Za,Zb,Zc,TT]
  refine hK _ _ ?_;clear hK K
  refine wK fun K hK=>?_
  refine wS fun K hK=>?_
  simp only [↓DN,Qa,Qb,Qc,Qd,Qe,Qf,Qg,Qh,reduceCtorEq,↓reduceIte,Na,Nb,Nc,Nk,Nf,Ng,Nh,Za,Zb,Zc,TT,h,e0]
  refine hK _ _ ?_;clear hK K
  refine wC fun X Y hX hY=>?_
  simp only [UP,DF,Nc,↓reduceIte,DB]
  refine hY ?_;clear hX hY X Y
  refine awp_skip ?_
  refine hK _ _ ?_;clear hK K
  refine awp_mrk_seq T.mixed [(p,[.sl 9 (n + 1) X .any])] [] [3,7] [] (by kernel_rfl) (by simp only [Pres_cons,Pres_nil,and_true]; simp [AS.set,upd,h]) ?_
  intro K hK
  simp only [↓AXr_nil,↓AXr_cons,gval,lval,fzGet_cons,fzGet_nil,Pres_cons,Pres_nil,List.any_cons,List.any_nil,List.contains_cons,List.contains_nil,Nat.reduceBEq,Bool.or_false,Bool.or_true,Bool.or_self,Bool.false_or,↓DN,Qa,Qb,Qc,Qd,Qe,Qf,Qg,Qh,reduceCtorEq,↓reduceIte,Na,Nb,Nc,Nk,Nf,Ng,Nh,Za,Zb,Zc,TT,h,e1,hge,hlt,hat]
  refine hK _ _ ?_;clear hK K
  refine awp_ret ?_
  try simp only [thenQ,blockQ]
  simp only [retQ,AEnds,aresL,ares,List.toList_toArray,↓upd_same]; try simp only [UP,DF,Nc,↓reduceIte,DT]
  exact ⟨_,_,AV.weak.refl _,AS.le.refl _,rfl,rfl⟩
end Go.Proofs.Ytfbbckndpkmfcaa
namespace Go.Proofs.Ytfbbckndpkmfcaa
open Go Go.AM Go.Proofs
variable {Γ : Nat→List AV}
theorem rowC_app {α : Type} (c : α→List AV) (a b : List α) : rowC c (a ++ b) = rowC c a ++ rowC c b:=by simp [rowC]
theorem refEntries_calls {s : AS} {p : Nat} {l : List Rec} (h : s.objs p = some [recsV l]) (hl : l.length≤2 ^ 40) (g : List UInt8) : ACalls Try.prog Γ 25 [.ptr p 0,.v (.string ⟨g.toArray⟩)] s (fun r s'=>r = entsV (entsR g l)∧s' = s):=by
 refine tidyL (Q:=fun r=>r = entsV (entsR g l)) ?_
 refine acalls_body Try.func25 rfl Try.ntmps25 Try.results25 (by simp) ?_
 have hrow:=fun i (h : i < l.length)=>row_at (c:=Rec.cells) (k:=9) (fun _=>rfl) h
 unfold recsV at h
 generalize rowC Rec.cells l = X at *
 refine wS fun K hK=>?_
 simp only [↓DN,Qa,Qb,Qc,Qd,Qe,Qf,Qg,Qh,reduceCtorEq,↓reduceIte,Na,Nb,Nc,Nk,Nf,Ng,Nh,Za,Zb,Zc,TT]
 refine hK _ _ ?_;clear hK K
 refine wS fun K hK=>?_
 simp only [↓DN,Qa,Qb,Qc,Qd,Qe,Qf,Qg,Qh,reduceCtorEq,↓reduceIte,Na,Nb,Nc,Nk,Nf,Ng,Nh,Za,Zb,Zc,TT]
 refine hK _ _ ?_;clear hK K
 refine wK fun K hK=>?_
 refine wS fun K hK=>?_
 simp only [↓DN,Qa,Qb,Qc,Qd,Qe,Qf,Qg,Qh,reduceCtorEq,↓reduceIte,Na,Nb,Nc,Nk,Nf,Ng,Nh,Za,Zb,Zc,TT]
 refine hK _ _ ?_;clear hK K
 refine awp_block ?_
 refine awp_loop (fun E s'=>∃ (i : Nat) (x : AV),i≤l.length∧E 6 = .v (.int .i64 i)∧E 0 = .ptr p 0∧E 1 = .v (.string ⟨g.toArray⟩)∧E 5 = x∧RBuf 5 s s' x (entsR g (l.take i)).length (rowC EntV.cells (entsR g (l.take i)))∧(entsR g (l.take i)).length≤i∧s.le s')
  (fun E _=>match E 6 with | .v (.int _ i)=>l.length - i.toNat | _=>0) ?_ ?_
 ·exact ⟨0,nilS,Nat.zero_le _,by simp only [upd,Nc,↓reduceIte]; rfl,by simp only [upd,initE,List.getD_cons_zero,List.getD_cons_succ,Nc,↓reduceIte],by simp only [upd,initE,List.getD_cons_zero,List.getD_cons_succ,Nc,↓reduceIte],by simp only [upd,Nc,↓reduceIte]; rfl,RBuf.nil _ _ _,Nat.le_refl _,AS.le.refl _⟩
 rintro E1 s1 ⟨i,x,hi,g6,g0,g1,g5,hx,hxl,hle⟩ -
 have h1:=hle.objs _ _ h
 refine wK fun K2 hK2=>?_
 by_cases hi' : i < l.length
 ·refine wS fun K hK=>?_
  simp only [↓DN,Qa,Qb,Qc,Qd,Qe,Qf,Qg,Qh,reduceCtorEq,↓reduceIte,Na,Nb,Nc,Nk,Nf,Ng,Nh,Za,Zb,Zc,TT,g6,g0,h1,eye_lt_nat,decide_eq_true hi']
  refine hK _ _ ?_;clear hK K
  refine wC fun X Y hX hY=>?_
  simp only [UP,DF,Nc,↓reduceIte,DB]
  refine hX ?_;clear hX hY X Y
  refine awp_skip ?_
  refine hK2 _ _ ?_;clear hK2 K2
  refine wK fun K3 hK3=>?_
  refine awp_block ?_
  have hge : (0 : Int)≤((i : Nat) : Int):=by omega
  have hat:=hrow i hi'
  have htk : entsR g (l.take (i + 1)) = entsR g (l.take i) ++ if l[i].kind≠3∧l[i].group = g then [entR i l[i]] else []:=by
   rw [List.take_succ_eq_append_getElem hi',entsR_snoc,List.length_take_of_le (by omega)]
  have hend : ∀ (E : Env) (s2 : AS) (x2 : AV),E 6 = .v (.int .i64 i)→E 0 = .ptr p 0→E 1 = .v (.string ⟨g.toArray⟩)→E 5 = x2→RBuf 5 s s2 x2 (entsR g (l.take (i + 1))).length (rowC EntV.cells (entsR g (l.take (i + 1))))→(entsR g (l.take (i + 1))).length≤i + 1→s.le s2→K3 E s2:=by
   intro E s2 x2 f6 f0 f1 f5 fx fl fle
   refine hK3 _ _ ?_;clear hK3 K3
   refine wE fun K hK=>?_
   simp only [↓DN,Qa,Qb,Qc,Qd,Qe,Qf,Qg,Qh,reduceCtorEq,↓reduceIte,Na,Nb,Nc,Nk,Nf,Ng,Nh,Za,Zb,Zc,TT,f6,eye_succM i (by omega)]
   refine hK _ _ ?_;clear hK K
   refine ⟨⟨i + 1,x2,hi',by simp only [upd,Nc,↓reduceIte],by simp only [upd,f0,Nc,↓reduceIte],by simp only [upd,f1,Nc,↓reduceIte],by simp only [upd,f5,Nc,↓reduceIte],fx,fl,fle⟩,?_⟩
   simp only [g6,upd,↓reduceIte]
   omega
  clear hK3
  rw [htk] at hend
  clear htk
  generalize entsR g (l.take i) = L at *
  generalize l[i] = r at *
  obtain ⟨rk,rg,re,rt,rb,ry,rtr,rsc,rw'⟩:=r
  unfold Rec.cells at *
  simp only at *
  unfold bytesV at *
  refine wS fun K hK=>?_
  simp only [↓DN,Qa,Qb,Qc,Qd,Qe,Qf,Qg,Qh,reduceCtorEq,↓reduceIte,Na,Nb,Nc,Nk,Nf,Ng,Nh,Za,Zb,Zc,TT,g6,g0,h1,hge,eye_lt_nat,hi',hat]
  intro o7 q7
  refine hK _ _ ?_
  have hl5:=AS.le_set hle (AS.le_none hle q7) [.v (.int .i64 rk),.sl 1 rg.length (rg.map byteV) .any,.v (.int .i64 re),.v (.int .i64 rt),.v (.int .i64 rb),.sl 1 ry.length (ry.map byteV) .any,.sl 1 rtr.length (rtr.map byteV) .any,.sl 1 rsc.length (rsc.map byteV) .any,.sl 1 rw'.length (rw'.map byteV) .any]
  have ho7:=AS.set_objs_same s1 o7 [.v (.int .i64 rk),.sl 1 rg.length (rg.map byteV) .any,.v (.int .i64 re),.v (.int .i64 rt),.v (.int .i64 rb),.sl 1 ry.length (ry.map byteV) .any,.sl 1 rtr.length (rtr.map byteV) .any,.sl 1 rsc.length (rsc.map byteV) .any,.sl 1 rw'.length (rw'.map byteV) .any]
  have hx5 : RBuf 5 s (s1.set o7 [.v (.int .i64 rk),.sl 1 rg.length (rg.map byteV) .any,.v (.int .i64 re),.v (.int .i64 rt),.v (.int .i64 rb),.sl 1 ry.length (ry.map byteV) .any,.sl 1 rtr.length (rtr.map byteV) .any,.sl 1 rsc.length (rsc.map byteV) .any,.sl 1 rw'.length (rw'.map byteV) .any]) x L.length (rowC EntV.cells L):=hx.own fun _ _ a _=>a
  generalize s1.set o7 [.v (.int .i64 rk),.sl 1 rg.length (rg.map byteV) .any,.v (.int .i64 re),.v (.int .i64 rt),.v (.int .i64 rb),.sl 1 ry.length (ry.map byteV) .any,.sl 1 rtr.length (rtr.map byteV) .any,.sl 1 rsc.length (rsc.map byteV) .any,.sl 1 rw'.length (rw'.map byteV) .any] = s5 at *
  clear hK K hx h1 hle
  have hskip : ¬ (rk≠3∧rg = g)→∀ E : Env,E 6 = .v (.int .i64 i)→E 0 = .ptr p 0→E 1 = .v (.string ⟨g.toArray⟩)→E 5 = x→K3 E s5:=by
   intro hn E f6 f0 f1 f5
   rw [if_neg hn,List.append_nil] at hend
   exact hend E s5 x f6 f0 f1 f5 hx5 (by omega) hl5
  by_cases hk3 : rk = 3
  ·refine wS fun K hK=>?_
   simp only [↓DN,Qa,Qb,Qc,Qd,Qe,Qf,Qg,Qh,reduceCtorEq,↓reduceIte,Na,Nb,Nc,Nk,Nf,Ng,Nh,Za,Zb,Zc,TT,ho7,int_bne_false hk3]
   refine hK _ _ ?_;clear hK K
   refine wC fun X Y hX hY=>?_
   simp only [UP,DF,Nc,↓reduceIte,DB]
   refine hY ?_;clear hX hY X Y
   refine awp_skip ?_
   simp only [blockQ,thenQ]
   exact hskip (fun q=>q.1 hk3) _ (by simp only [upd,g6,Nc,↓reduceIte]) (by simp only [upd,g0,Nc,↓reduceIte]) (by simp only [upd,g1,Nc,↓reduceIte]) (by simp only [upd,g5,Nc,↓reduceIte])
  ·by_cases hg : rg = g
   ·rw [if_pos ⟨hk3,hg⟩] at hend
    rw [rowC_app,List.length_append] at hend
    refine wS fun K hK=>?_
    simp only [↓DN,Qa,Qb,Qc,Qd,Qe,Qf,Qg,Qh,reduceCtorEq,↓reduceIte,Na,Nb,Nc,Nk,Nf,Ng,Nh,Za,Zb,Zc,TT,ho7,int_bne_true hk3,g1,show (rg == g) = true from beq_iff_eq.2 hg]
    refine hK _ _ ?_;clear hK K
    refine wC fun X Y hX hY=>?_
    simp only [UP,DF,Nc,↓reduceIte,DB]
    refine hX ?_;clear hX hY X Y
    rcases hx5 with ⟨rfl,h0,hL0⟩ | ⟨t,e,rfl,ht,ht0⟩
    ·refine wE fun K hK=>?_
     simp only [↓DN,Qa,Qb,Qc,Qd,Qe,Qf,Qg,Qh,reduceCtorEq,↓reduceIte,Na,Nb,Nc,Nk,Nf,Ng,Nh,Za,Zb,Zc,TT,ho7,g5,g6,nilS,zrow5,List.replicate_succ,List.replicate_zero]
     intro t ht
     have ht0:=own_none_le hl5 ht
     refine hK _ _ (hend _ _ (.sl 5 1 [.v (.int .i64 i),.v (.int .i64 rk),.v (.int .i64 re),.v (.int .i64 rt),.v (.int .i64 rb)] (.own t 0)) (by simp only [upd,g6,Nc,↓reduceIte]) (by simp only [upd,g0,Nc,↓reduceIte]) (by simp only [upd,g1,Nc,↓reduceIte]) (by simp only [upd,Nc,↓reduceIte]) (.inr ⟨t,0,?_,by simp [AS.gain],ht0⟩) (by simp only [List.length_singleton]; omega) (AS.le_gain hl5 ht0 0))
     rw [h0,hL0]
     rfl
    ·refine wE fun K hK=>?_
     simp only [↓DN,Qa,Qb,Qc,Qd,Qe,Qf,Qg,Qh,reduceCtorEq,↓reduceIte,Na,Nb,Nc,Nk,Nf,Ng,Nh,Za,Zb,Zc,TT,ho7,g5,g6,ht,zrow5,List.replicate_succ,List.replicate_zero]
     refine ⟨by omega,by omega,hK _ _ (hend _ _ (.sl 5 (L.length + 1) (rowC EntV.cells L ++ [.v (.int .i64 i),.v (.int .i64 rk),.v (.int .i64 re),.v (.int .i64 rt),.v (.int .i64 rb)]) (.own t (e + 1))) (by simp only [upd,g6,Nc,↓reduceIte]) (by simp only [upd,g0,Nc,↓reduceIte]) (by simp only [upd,g1,Nc,↓reduceIte]) (by simp only [upd,Nc,↓reduceIte]) (.inr ⟨t,e + 1,rfl,by simp [AS.gain],ht0⟩) (by simp only [List.length_singleton]; omega) (AS.le_gain hl5 ht0 (e + 1)))⟩
   ·refine wS fun K hK=>?_
    simp only [↓DN,Qa,Qb,Qc,Qd,Qe,Qf,Qg,Qh,reduceCtorEq,↓reduceIte,Na,Nb,Nc,Nk,Nf,Ng,Nh,Za,Zb,Zc,TT,ho7,int_bne_true hk3,g1,show (rg == g) = false from beq_eq_false_iff_ne.2 hg]
    refine hK _ _ ?_;clear hK K
    refine wC fun X Y hX hY=>?_
    simp only [UP,DF,Nc,↓reduceIte,DB]
    refine hY ?_;clear hX hY X Y
    refine awp_skip ?_
    simp only [blockQ,thenQ]
    exact hskip (fun q=>hg q.2) _ (by simp only [upd,g6,Nc,↓reduceIte]) (by simp only [upd,g0,Nc,↓reduceIte]) (by simp only [upd,g1,Nc,↓reduceIte]) (by simp only [upd,g5,Nc,↓reduceIte])
 ·refine wS fun K hK=>?_
  simp only [↓DN,Qa,Qb,Qc,Qd,Qe,Qf,Qg,Qh,reduceCtorEq,↓reduceIte,Na,Nb,Nc,Nk,Nf,Ng,Nh,Za,Zb,Zc,TT,g6,g0,h1,eye_lt_nat,decide_eq_false hi']
  refine hK _ _ ?_;clear hK K
  refine wC fun X Y hX hY=>?_
  simp only [UP,DF,Nc,↓reduceIte,DB]
  refine hY ?_;clear hX hY X Y
  refine awp_exit ?_
  simp only [thenQ,blockQ,if_true]
  refine hK _ _ ?_;clear hK hK2 K2 K
  rw [List.take_of_length_le (by omega)] at hx
  refine wS fun K hK=>?_
  simp only [↓DN,Qa,Qb,Qc,Qd,Qe,Qf,Qg,Qh,reduceCtorEq,↓reduceIte,Na,Nb,Nc,Nk,Nf,Ng,Nh,Za,Zb,Zc,TT,g5]
  refine hK _ _ ?_;clear hK K
  refine awp_ret ?_
  try simp only [thenQ,blockQ]
  simp only [retQ,AEnds,aresL,ares,List.toList_toArray,↓upd_same]; try simp only [UP,DF,Nc,↓reduceIte,DT]
  exact ⟨_,_,hx.weak,AS.le.refl _,rfl,hle⟩
end Go.Proofs.Ytfbbckndpkmfcaa
namespace Go.Proofs.Ytfbbckndpkmfcaa
open Go Go.AM Go.Proofs
variable {Γ : Nat→List AV}
theorem refCheck_calls {s : AS} {p : Nat} {l : List Rec} (h : s.objs p = some [recsV l]) (hl : l.length≤2 ^ 40) (r : Rec) (hep : ∀ e ∈ entsR r.group l,0≤e.epoch∧e.epoch≤1048576) :
  ACalls Try.prog Γ 9 [.ptr p 0,.agg r.cells] s (fun v s'=>v = .v (.int .i64 (checkR l r))∧s' = s):=by
 refine acalls_body Try.func9 rfl Try.ntmps9 Try.results9 (by simp) ?_
 have hri:=fun s=>refRight12_calls (Γ:=Γ) r s
 have hti:=refTime_calls (Γ:=Γ) h hl
 have hsh:=refShr_calls (Γ:=Γ) h hl r.bucket
 have hen:=refEntries_calls (Γ:=Γ) h hl r.group
 obtain ⟨V,hV⟩ : ∃ V,V = checkR l r:=⟨_,rfl⟩
 rw [← hV]
 unfold checkR at hV
 have hll : (entsR r.group l).length≤2 ^ 40:=by
  have : (entsR r.group l).length≤l.length:=by
   unfold entsR
   rw [List.length_map]
   exact Nat.le_trans (List.length_filter_le _ _) (by simp)
  omega
 generalize hS : shrR r.bucket l = S at *
 generalize hT : timeR l = TM at *
 generalize entsR r.group l = L at *
 clear h hl hS hT
 have hrow:=fun i (h : i < L.length)=>row_at (c:=EntV.cells) (k:=5) (fun _=>rfl) h
 unfold entsV at hen
 generalize rowC EntV.cells L = X at *
 obtain ⟨rk,rg,re,rt,rb,ry,rtr,rsc,rw'⟩:=r
 unfold Rec.cells at *
 simp only at *
 unfold bytesV at *
 obtain ⟨VR,hVR⟩ : ∃ VR,VR = AV.rop [.v (.int .i64 rk),.sl 1 rg.length (rg.map byteV) .any,.v (.int .i64 re),.v (.int .i64 rt),.v (.int .i64 rb),.sl 1 ry.length (ry.map byteV) .any,.sl 1 rtr.length (rtr.map byteV) .any,.sl 1 rsc.length (rsc.map byteV) .any,.sl 1 rw'.length (rw'.map byteV) .any]:=⟨_,rfl⟩
 refine awp_reg_frz 3 (by decide) ?_
 intro K hK
 simp only [↓DM,pval,DX,Nz,↓DN,Qa,Qb,Qc,Qd,Qe,Qf,Qg,Qh,reduceCtorEq,↓reduceIte,Na,Nb,Nc,Nk,Nf,Ng,Nh,Za,Zb,Zc,TT]
 intro o3 q3
 refine hK _ _ o3 _ (by simp only [upd,Nc,↓reduceIte]) q3 ?_
 clear hK K q3
 refine wK fun K hK=>?_
 refine wS fun K hK=>?_
 simp only [↓DN,Qa,Qb,Qc,Qd,Qe,Qf,Qg,Qh,reduceCtorEq,↓reduceIte,Na,Nb,Nc,Nk,Nf,Ng,Nh,Za,Zb,Zc,TT]
 refine acallk (hri _) ?_
 rintro r s1 ⟨rfl,rfl⟩
 by_cases hr : (⟨rk,rg,re,rt,rb,ry,rtr,rsc,rw'⟩ : Rec).right
 ·rw [if_neg (fun k=>k hr)] at hV
  rw [decide_eq_true hr]
  simp only [↓DM,pval,DX,Nz,↓DN,Qa,Qb,Qc,Qd,Qe,Qf,Qg,Qh,reduceCtorEq,↓reduceIte,Na,Nb,Nc,Nk,Nf,Ng,Nh,Za,Zb,Zc,TT]
  refine hK _ _ ?_;clear hK K
  refine wC fun X Y hX hY=>?_
  simp only [UP,DF,Nc,↓reduceIte,DB]
  refine hY ?_;clear hX hY X Y
  refine awp_skip ?_
  refine hK _ _ ?_;clear hK K
  refine wK fun K hK=>?_
  refine awp_drw_seq T.mixed [3] (by kernel_rfl) ?_
  intro K hK
  simp only [↓DM,pval,DX,Nz,↓DN,Qa,Qb,Qc,Qd,Qe,Qf,Qg,Qh,reduceCtorEq,↓reduceIte,Na,Nb,Nc,Nk,Nf,Ng,Nh,Za,Zb,Zc,TT]
  refine acallk hti ?_
  rintro r s2 ⟨rfl,rfl⟩
  by_cases ht : rt < TM
  ·rw [if_pos ht] at hV
   simp only [↓DM,pval,DX,Nz,↓DN,Qa,Qb,Qc,Qd,Qe,Qf,Qg,Qh,reduceCtorEq,↓reduceIte,Na,Nb,Nc,Nk,Nf,Ng,Nh,Za,Zb,Zc,TT,decide_eq_true ht]
   refine hK _ _ ?_;clear hK K
   refine wC fun X Y hX hY=>?_
   simp only [UP,DF,Nc,↓reduceIte,DB]
   refine hX ?_;clear hX hY X Y
   refine wS fun K hK=>?_
   simp only [↓DN,Qa,Qb,Qc,Qd,Qe,Qf,Qg,Qh,reduceCtorEq,↓reduceIte,Na,Nb,Nc,Nk,Nf,Ng,Nh,Za,Zb,Zc,TT]
   refine hK _ _ ?_;clear hK K
   refine awp_ret ?_
   try simp only [thenQ,blockQ]
   simp only [retQ,AEnds,aresL,ares,List.toList_toArray,↓upd_same]; try simp only [UP,DF,Nc,↓reduceIte,DT]
   exact ⟨_,_,AV.weak.refl _,AS.le.refl _,by rw [hV],rfl⟩
  ·rw [if_neg ht] at hV
   simp only [↓DM,pval,DX,Nz,↓DN,Qa,Qb,Qc,Qd,Qe,Qf,Qg,Qh,reduceCtorEq,↓reduceIte,Na,Nb,Nc,Nk,Nf,Ng,Nh,Za,Zb,Zc,TT,decide_eq_false ht]
   refine hK _ _ ?_;clear hK K
   refine wC fun X Y hX hY=>?_
   simp only [UP,DF,Nc,↓reduceIte,DB]
   refine hY ?_;clear hX hY X Y
   refine awp_skip ?_
   refine hK _ _ ?_;clear hK K
   refine wK fun K hK=>?_
   refine wS fun K hK=>?_
   simp only [↓DN,Qa,Qb,Qc,Qd,Qe,Qf,Qg,Qh,reduceCtorEq,↓reduceIte,Na,Nb,Nc,Nk,Nf,Ng,Nh,Za,Zb,Zc,TT]
   refine acallk hsh ?_
   rintro r s3 ⟨rfl,rfl⟩
   cases S with
   | true =>
    simp only [if_true] at hV
    simp only [↓DM,pval,DX,Nz,↓DN,Qa,Qb,Qc,Qd,Qe,Qf,Qg,Qh,reduceCtorEq,↓reduceIte,Na,Nb,Nc,Nk,Nf,Ng,Nh,Za,Zb,Zc,TT]
    refine hK _ _ ?_;clear hK K
    refine wC fun X Y hX hY=>?_
    simp only [UP,DF,Nc,↓reduceIte,DB]
    refine hX ?_;clear hX hY X Y
    refine wK fun K2 hK2=>?_
    by_cases h3 : rk = 3
    ·rw [if_pos h3] at hV
     refine wS fun K hK=>?_
     simp only [↓DN,Qa,Qb,Qc,Qd,Qe,Qf,Qg,Qh,reduceCtorEq,↓reduceIte,Na,Nb,Nc,Nk,Nf,Ng,Nh,Za,Zb,Zc,TT,int_eq_yes h3]
     refine hK _ _ ?_;clear hK K
     refine wC fun X Y hX hY=>?_
     simp only [UP,DF,Nc,↓reduceIte,DB]
     refine hX ?_;clear hX hY X Y
     refine wS fun K hK=>?_
     simp only [↓DN,Qa,Qb,Qc,Qd,Qe,Qf,Qg,Qh,reduceCtorEq,↓reduceIte,Na,Nb,Nc,Nk,Nf,Ng,Nh,Za,Zb,Zc,TT]
     refine hK _ _ ?_;clear hK K
     refine awp_ret ?_
     try simp only [thenQ,blockQ]
     simp only [retQ,AEnds,aresL,ares,List.toList_toArray,↓upd_same]; try simp only [UP,DF,Nc,↓reduceIte,DT]
     exact ⟨_,_,AV.weak.refl _,AS.le.refl _,by rw [hV],rfl⟩
    ·rw [if_neg h3] at hV
     refine wS fun K hK=>?_
     simp only [↓DN,Qa,Qb,Qc,Qd,Qe,Qf,Qg,Qh,reduceCtorEq,↓reduceIte,Na,Nb,Nc,Nk,Nf,Ng,Nh,Za,Zb,Zc,TT,int_eq_no h3]
     refine hK _ _ ?_;clear hK K
     refine wC fun X Y hX hY=>?_
     simp only [UP,DF,Nc,↓reduceIte,DB]
     refine hY ?_;clear hX hY X Y
     refine awp_skip ?_
     refine hK2 _ _ ?_;clear hK2 K2
     refine wS fun K hK=>?_
     simp only [↓DN,Qa,Qb,Qc,Qd,Qe,Qf,Qg,Qh,reduceCtorEq,↓reduceIte,Na,Nb,Nc,Nk,Nf,Ng,Nh,Za,Zb,Zc,TT]
     refine hK _ _ ?_;clear hK K
     refine awp_ret ?_
     try simp only [thenQ,blockQ]
     simp only [retQ,AEnds,aresL,ares,List.toList_toArray,↓upd_same]; try simp only [UP,DF,Nc,↓reduceIte,DT]
     exact ⟨_,_,AV.weak.refl _,AS.le.refl _,by rw [hV],rfl⟩
   | false =>
    simp only [Bool.false_eq_true,if_false] at hV
    simp only [↓DM,pval,DX,Nz,↓DN,Qa,Qb,Qc,Qd,Qe,Qf,Qg,Qh,reduceCtorEq,↓reduceIte,Na,Nb,Nc,Nk,Nf,Ng,Nh,Za,Zb,Zc,TT]
    refine hK _ _ ?_;clear hK K
    refine wC fun X Y hX hY=>?_
    simp only [UP,DF,Nc,↓reduceIte,DB]
    refine hY ?_;clear hX hY X Y
    refine awp_skip ?_
    refine hK _ _ ?_;clear hK K
    refine wK fun K hK=>?_
    by_cases h3 : rk = 3
    ·rw [if_pos h3] at hV
     refine wS fun K hK=>?_
     simp only [↓DN,Qa,Qb,Qc,Qd,Qe,Qf,Qg,Qh,reduceCtorEq,↓reduceIte,Na,Nb,Nc,Nk,Nf,Ng,Nh,Za,Zb,Zc,TT,int_eq_yes h3]
     refine hK _ _ ?_;clear hK K
     refine wC fun X Y hX hY=>?_
     simp only [UP,DF,Nc,↓reduceIte,DB]
     refine hX ?_;clear hX hY X Y
     refine wS fun K hK=>?_
     simp only [↓DN,Qa,Qb,Qc,Qd,Qe,Qf,Qg,Qh,reduceCtorEq,↓reduceIte,Na,Nb,Nc,Nk,Nf,Ng,Nh,Za,Zb,Zc,TT]
     refine hK _ _ ?_;clear hK K
     refine awp_ret ?_
     try simp only [thenQ,blockQ]
     simp only [retQ,AEnds,aresL,ares,List.toList_toArray,↓upd_same]; try simp only [UP,DF,Nc,↓reduceIte,DT]
     exact ⟨_,_,AV.weak.refl _,AS.le.refl _,by rw [hV],rfl⟩
    ·rw [if_neg h3] at hV
     refine wS fun K hK=>?_
     simp only [↓DN,Qa,Qb,Qc,Qd,Qe,Qf,Qg,Qh,reduceCtorEq,↓reduceIte,Na,Nb,Nc,Nk,Nf,Ng,Nh,Za,Zb,Zc,TT,int_eq_no h3]
     refine hK _ _ ?_;clear hK K
     refine wC fun X Y hX hY=>?_
     simp only [UP,DF,Nc,↓reduceIte,DB]
     refine hY ?_;clear hX hY X Y
     refine awp_skip ?_
     refine hK _ _ ?_;clear hK K
     refine wS fun K hK=>?_
     simp only [↓DN,Qa,Qb,Qc,Qd,Qe,Qf,Qg,Qh,reduceCtorEq,↓reduceIte,Na,Nb,Nc,Nk,Nf,Ng,Nh,Za,Zb,Zc,TT]
     refine acallk hen ?_
     rintro r s4 ⟨rfl,rfl⟩
     simp only [↓DM,pval,DX,Nz,↓DN,Qa,Qb,Qc,Qd,Qe,Qf,Qg,Qh,reduceCtorEq,↓reduceIte,Na,Nb,Nc,Nk,Nf,Ng,Nh,Za,Zb,Zc,TT]
     refine hK _ _ ?_;clear hK K
     refine wK fun K hK=>?_
     rcases List.eq_nil_or_concat L with rfl | ⟨L',d,rfl⟩
     ·have e0 : ((([] : List EntV).length : Int) == 0) = true:=rfl
      have e1 : decide ((([] : List EntV).length : Int) > 0) = false:=rfl
      by_cases h2 : rk = 2
      ·rw [if_pos ⟨h2,rfl⟩] at hV
       refine wS fun K hK=>?_
       simp only [↓DN,Qa,Qb,Qc,Qd,Qe,Qf,Qg,Qh,reduceCtorEq,↓reduceIte,Na,Nb,Nc,Nk,Nf,Ng,Nh,Za,Zb,Zc,TT,int_eq_yes h2,show (((0 : Nat) : Int) == 0) = true from rfl]
       refine hK _ _ ?_;clear hK K
       refine wC fun X Y hX hY=>?_
       simp only [UP,DF,Nc,↓reduceIte,DB]
       refine hX ?_;clear hX hY X Y
       refine wS fun K hK=>?_
       simp only [↓DN,Qa,Qb,Qc,Qd,Qe,Qf,Qg,Qh,reduceCtorEq,↓reduceIte,Na,Nb,Nc,Nk,Nf,Ng,Nh,Za,Zb,Zc,TT]
       refine hK _ _ ?_;clear hK K
       refine awp_ret ?_
       try simp only [thenQ,blockQ]
       simp only [retQ,AEnds,aresL,ares,List.toList_toArray,↓upd_same]; try simp only [UP,DF,Nc,↓reduceIte,DT]
       exact ⟨_,_,AV.weak.refl _,AS.le.refl _,by rw [hV],rfl⟩
      ·rw [if_neg (fun q=>h2 q.1),if_neg (fun q=>q.1 rfl)] at hV
       refine wS fun K hK=>?_
       simp only [↓DN,Qa,Qb,Qc,Qd,Qe,Qf,Qg,Qh,reduceCtorEq,↓reduceIte,Na,Nb,Nc,Nk,Nf,Ng,Nh,Za,Zb,Zc,TT,int_eq_no h2]
       refine hK _ _ ?_;clear hK K
       refine wC fun X Y hX hY=>?_
       simp only [UP,DF,Nc,↓reduceIte,DB]
       refine hY ?_;clear hX hY X Y
       refine awp_skip ?_
       refine hK _ _ ?_;clear hK K
       refine wK fun K hK=>?_
       refine wS fun K hK=>?_
       simp only [↓DN,Qa,Qb,Qc,Qd,Qe,Qf,Qg,Qh,reduceCtorEq,↓reduceIte,Na,Nb,Nc,Nk,Nf,Ng,Nh,Za,Zb,Zc,TT,show decide ((0 : Int) < ((0 : Nat) : Int)) = false from rfl]
       refine hK _ _ ?_;clear hK K
       refine wC fun X Y hX hY=>?_
       simp only [UP,DF,Nc,↓reduceIte,DB]
       refine hY ?_;clear hX hY X Y
       refine awp_skip ?_
       refine hK _ _ ?_;clear hK K
       refine wS fun K hK=>?_
       simp only [↓DN,Qa,Qb,Qc,Qd,Qe,Qf,Qg,Qh,reduceCtorEq,↓reduceIte,Na,Nb,Nc,Nk,Nf,Ng,Nh,Za,Zb,Zc,TT]
       refine hK _ _ ?_;clear hK K
       refine awp_ret ?_
       try simp only [thenQ,blockQ]
       simp only [retQ,AEnds,aresL,ares,List.toList_toArray,↓upd_same]; try simp only [UP,DF,Nc,↓reduceIte,DT]
       exact ⟨_,_,AV.weak.refl _,AS.le.refl _,by rw [hV],rfl⟩
     ·rw [List.concat_eq_append] at *
      have hlen : (L' ++ [d]).length = L'.length + 1:=by simp
      have hat:=hrow L'.length (by simp)
      have hd : (L' ++ [d])[L'.length]'(by simp) = d:=by simp
      have hla : lastE (L' ++ [d]) = d:=by simp [lastE]
      have hne : L' ++ [d]≠[]:=by simp
      have hed:=hep d (by simp)
      rw [hd] at hat
      rw [hla] at hV
      rw [hlen] at hll ⊢
      have e0 : (((L'.length + 1 : Nat) : Int) == 0) = false:=by rw [beq_eq_false_iff_ne]; omega
      have e1 : decide ((0 : Int) < ((L'.length + 1 : Nat) : Int)) = true:=by rw [decide_eq_true_iff]; omega
      have e2 : isub .i64 ((L'.length + 1 : Nat) : Int) 1 = (L'.length : Int):=by rw [dec_i64 (by omega) (by omega)]; omega
      have e3 : iadd .i64 d.epoch 1 = d.epoch + 1:=iadd_i64 (by omega)
      have hge : (0 : Int)≤(L'.length : Int):=by omega
      have hlt : ((L'.length : Nat) : Int) < ((L'.length + 1 : Nat) : Int):=by omega
      simp only [hne,and_false,if_false,ne_eq,not_false_eq_true,true_and] at hV
      clear hrow hd hla hep hlen hne
      generalize L'.length = n at *
      obtain ⟨d1,d2,d3,d4,d5⟩:=d
      unfold EntV.cells at hat
      simp only at hat hV e3 hed
      have hgo : ∀ E : Env,E 3 = VR→E 5 = .sl 5 (n + 1) X .any→K E s4:=by
       intro E g3 g5
       refine hK _ _ ?_;clear hK K
       refine wK fun K hK=>?_
       refine wS fun K hK=>?_
       simp only [↓DN,Qa,Qb,Qc,Qd,Qe,Qf,Qg,Qh,reduceCtorEq,↓reduceIte,Na,Nb,Nc,Nk,Nf,Ng,Nh,Za,Zb,Zc,TT,g5,e1]
       refine hK _ _ ?_;clear hK K
       refine wC fun X Y hX hY=>?_
       simp only [UP,DF,Nc,↓reduceIte,DB]
       refine hX ?_;clear hX hY X Y
       refine wS fun K hK=>?_
       simp only [↓DN,Qa,Qb,Qc,Qd,Qe,Qf,Qg,Qh,reduceCtorEq,↓reduceIte,Na,Nb,Nc,Nk,Nf,Ng,Nh,Za,Zb,Zc,TT,g5,e2,hge,hlt,hat]
       refine hK _ _ ?_;clear hK K
       by_cases h2 : rk = 2
       ·have h1 : rk≠1:=by omega
        by_cases he : re = d3 + 1
        ·rw [if_neg (by rintro (k | k); exact k.2 he; exact h1 k.1)] at hV
         refine wS fun K hK=>?_
         simp only [↓DN,Qa,Qb,Qc,Qd,Qe,Qf,Qg,Qh,reduceCtorEq,↓reduceIte,Na,Nb,Nc,Nk,Nf,Ng,Nh,Za,Zb,Zc,TT,g3,hVR,int_eq_yes h2,e3,int_bne_false he,int_eq_no h1]
         refine hK _ _ ?_;clear hK K
         refine wC fun X Y hX hY=>?_
         simp only [UP,DF,Nc,↓reduceIte,DB]
         refine hY ?_;clear hX hY X Y
         refine awp_skip ?_
         refine hK _ _ ?_;clear hK K
         refine wS fun K hK=>?_
         simp only [↓DN,Qa,Qb,Qc,Qd,Qe,Qf,Qg,Qh,reduceCtorEq,↓reduceIte,Na,Nb,Nc,Nk,Nf,Ng,Nh,Za,Zb,Zc,TT]
         refine hK _ _ ?_;clear hK K
         refine awp_ret ?_
         try simp only [thenQ,blockQ]
         simp only [retQ,AEnds,aresL,ares,List.toList_toArray,↓upd_same]; try simp only [UP,DF,Nc,↓reduceIte,DT]
         exact ⟨_,_,AV.weak.refl _,AS.le.refl _,by rw [hV],rfl⟩
        ·rw [if_pos (.inl ⟨h2,he⟩)] at hV
         refine wS fun K hK=>?_
         simp only [↓DN,Qa,Qb,Qc,Qd,Qe,Qf,Qg,Qh,reduceCtorEq,↓reduceIte,Na,Nb,Nc,Nk,Nf,Ng,Nh,Za,Zb,Zc,TT,g3,hVR,int_eq_yes h2,e3,int_bne_true he]
         refine hK _ _ ?_;clear hK K
         refine wC fun X Y hX hY=>?_
         simp only [UP,DF,Nc,↓reduceIte,DB]
         refine hX ?_;clear hX hY X Y
         refine wS fun K hK=>?_
         simp only [↓DN,Qa,Qb,Qc,Qd,Qe,Qf,Qg,Qh,reduceCtorEq,↓reduceIte,Na,Nb,Nc,Nk,Nf,Ng,Nh,Za,Zb,Zc,TT]
         refine hK _ _ ?_;clear hK K
         refine awp_ret ?_
         try simp only [thenQ,blockQ]
         simp only [retQ,AEnds,aresL,ares,List.toList_toArray,↓upd_same]; try simp only [UP,DF,Nc,↓reduceIte,DT]
         exact ⟨_,_,AV.weak.refl _,AS.le.refl _,by rw [hV],rfl⟩
       ·by_cases h1 : rk = 1
        ·by_cases he : re≤d3
         ·rw [if_pos (.inr ⟨h1,he⟩)] at hV
          refine wS fun K hK=>?_
          simp only [↓DN,Qa,Qb,Qc,Qd,Qe,Qf,Qg,Qh,reduceCtorEq,↓reduceIte,Na,Nb,Nc,Nk,Nf,Ng,Nh,Za,Zb,Zc,TT,g3,hVR,int_eq_no h2,int_eq_yes h1,decide_eq_true he]
          refine hK _ _ ?_;clear hK K
          refine wC fun X Y hX hY=>?_
          simp only [UP,DF,Nc,↓reduceIte,DB]
          refine hX ?_;clear hX hY X Y
          refine wS fun K hK=>?_
          simp only [↓DN,Qa,Qb,Qc,Qd,Qe,Qf,Qg,Qh,reduceCtorEq,↓reduceIte,Na,Nb,Nc,Nk,Nf,Ng,Nh,Za,Zb,Zc,TT]
          refine hK _ _ ?_;clear hK K
          refine awp_ret ?_
          try simp only [thenQ,blockQ]
          simp only [retQ,AEnds,aresL,ares,List.toList_toArray,↓upd_same]; try simp only [UP,DF,Nc,↓reduceIte,DT]
          exact ⟨_,_,AV.weak.refl _,AS.le.refl _,by rw [hV],rfl⟩
         ·rw [if_neg (by rintro (k | k); exact h2 k.1; exact he k.2)] at hV
          refine wS fun K hK=>?_
          simp only [↓DN,Qa,Qb,Qc,Qd,Qe,Qf,Qg,Qh,reduceCtorEq,↓reduceIte,Na,Nb,Nc,Nk,Nf,Ng,Nh,Za,Zb,Zc,TT,g3,hVR,int_eq_no h2,int_eq_yes h1,decide_eq_false he]
          refine hK _ _ ?_;clear hK K
          refine wC fun X Y hX hY=>?_
          simp only [UP,DF,Nc,↓reduceIte,DB]
          refine hY ?_;clear hX hY X Y
          refine awp_skip ?_
          refine hK _ _ ?_;clear hK K
          refine wS fun K hK=>?_
          simp only [↓DN,Qa,Qb,Qc,Qd,Qe,Qf,Qg,Qh,reduceCtorEq,↓reduceIte,Na,Nb,Nc,Nk,Nf,Ng,Nh,Za,Zb,Zc,TT]
          refine hK _ _ ?_;clear hK K
          refine awp_ret ?_
          try simp only [thenQ,blockQ]
          simp only [retQ,AEnds,aresL,ares,List.toList_toArray,↓upd_same]; try simp only [UP,DF,Nc,↓reduceIte,DT]
          exact ⟨_,_,AV.weak.refl _,AS.le.refl _,by rw [hV],rfl⟩
        ·rw [if_neg (by rintro (k | k); exact h2 k.1; exact h1 k.1)] at hV
         refine wS fun K hK=>?_
         simp only [↓DN,Qa,Qb,Qc,Qd,Qe,Qf,Qg,Qh,reduceCtorEq,↓reduceIte,Na,Nb,Nc,Nk,Nf,Ng,Nh,Za,Zb,Zc,TT,g3,hVR,int_eq_no h2,int_eq_no h1]
         refine hK _ _ ?_;clear hK K
         refine wC fun X Y hX hY=>?_
         simp only [UP,DF,Nc,↓reduceIte,DB]
         refine hY ?_;clear hX hY X Y
         refine awp_skip ?_
         refine hK _ _ ?_;clear hK K
         refine wS fun K hK=>?_
         simp only [↓DN,Qa,Qb,Qc,Qd,Qe,Qf,Qg,Qh,reduceCtorEq,↓reduceIte,Na,Nb,Nc,Nk,Nf,Ng,Nh,Za,Zb,Zc,TT]
         refine hK _ _ ?_;clear hK K
         refine awp_ret ?_
         try simp only [thenQ,blockQ]
         simp only [retQ,AEnds,aresL,ares,List.toList_toArray,↓upd_same]; try simp only [UP,DF,Nc,↓reduceIte,DT]
         exact ⟨_,_,AV.weak.refl _,AS.le.refl _,by rw [hV],rfl⟩
      clear hK
      by_cases h2 : rk = 2
      ·refine wS fun K hK=>?_
       simp only [↓DN,Qa,Qb,Qc,Qd,Qe,Qf,Qg,Qh,reduceCtorEq,↓reduceIte,Na,Nb,Nc,Nk,Nf,Ng,Nh,Za,Zb,Zc,TT,int_eq_yes h2,e0]
       refine hK _ _ ?_;clear hK K
       refine wC fun X Y hX hY=>?_
       simp only [UP,DF,Nc,↓reduceIte,DB]
       refine hY ?_;clear hX hY X Y
       refine awp_skip ?_
       exact hgo _ (by rw [hVR]; exact (by simp only [upd,Nc,↓reduceIte])) (by simp only [upd,Nc,↓reduceIte])
      ·refine wS fun K hK=>?_
       simp only [↓DN,Qa,Qb,Qc,Qd,Qe,Qf,Qg,Qh,reduceCtorEq,↓reduceIte,Na,Nb,Nc,Nk,Nf,Ng,Nh,Za,Zb,Zc,TT,int_eq_no h2]
       refine hK _ _ ?_;clear hK K
       refine wC fun X Y hX hY=>?_
       simp only [UP,DF,Nc,↓reduceIte,DB]
       refine hY ?_;clear hX hY X Y
       refine awp_skip ?_
       exact hgo _ (by rw [hVR]; exact (by simp only [upd,Nc,↓reduceIte])) (by simp only [upd,Nc,↓reduceIte])
 ·rw [if_pos hr] at hV
  rw [decide_eq_false hr]
  simp only [↓DM,pval,DX,Nz,↓DN,Qa,Qb,Qc,Qd,Qe,Qf,Qg,Qh,reduceCtorEq,↓reduceIte,Na,Nb,Nc,Nk,Nf,Ng,Nh,Za,Zb,Zc,TT]
  refine hK _ _ ?_;clear hK K
  refine wC fun X Y hX hY=>?_
  simp only [UP,DF,Nc,↓reduceIte,DB]
  refine hX ?_;clear hX hY X Y
  refine wS fun K hK=>?_
  simp only [↓DN,Qa,Qb,Qc,Qd,Qe,Qf,Qg,Qh,reduceCtorEq,↓reduceIte,Na,Nb,Nc,Nk,Nf,Ng,Nh,Za,Zb,Zc,TT]
  refine hK _ _ ?_;clear hK K
  refine awp_ret ?_
  try simp only [thenQ,blockQ]
  simp only [retQ,AEnds,aresL,ares,List.toList_toArray,↓upd_same]; try simp only [UP,DF,Nc,↓reduceIte,DT]
  exact ⟨_,_,AV.weak.refl _,AS.le.refl _,by rw [hV],rfl⟩
end Go.Proofs.Ytfbbckndpkmfcaa
namespace Go.Proofs.Ytfbbckndpkmfcaa
open Go Go.AM Go.Proofs
variable {Γ : Nat→List AV}
structure Upd1 (p : Nat) (s s' : AS) : Prop where
 objs : ∀ o cs,o≠p→s.objs o = some cs→s'.objs o = some cs
 own : ∀ t e,s.own t = some e→s'.own t = some e
 maps : ∀ b m,s.maps b = some m→s'.maps b = some m
theorem Upd1.refl (p : Nat) (s : AS) : Upd1 p s s:=⟨fun _ _ _ h=>h,fun _ _ h=>h,fun _ _ h=>h⟩
theorem Upd1.set {p : Nat} {s s' : AS} (h : Upd1 p s s') (cs : List AV) : Upd1 p s (s'.set p cs) :=
 ⟨fun o ds ho h1=>by rw [AS.set_objs_ne _ ho]; exact h.objs o ds ho h1,h.own,h.maps⟩
theorem Upd1.gain {p : Nat} {s s' : AS} (h : Upd1 p s s') {t : Nat} (ht : s.own t = none) (e : Nat) : Upd1 p s (s'.gain t e) :=
 ⟨h.objs,fun t' e' h1=>by
  have : t'≠t:=by rintro rfl; rw [ht] at h1; cases h1
  simpa [AS.gain,upd,this] using h.own t' e' h1,h.maps⟩
theorem zrow9 : zrow 9 [AV.v (.int .i64 0),.v (.slice none 0 0),.v (.int .i64 0),.v (.int .i64 0),.v (.int .i64 0),.v (.slice none 0 0),.v (.slice none 0 0),.v (.slice none 0 0),.v (.slice none 0 0)] = [AV.v (.int .i64 0),.v (.slice none 0 0),.v (.int .i64 0),.v (.int .i64 0),.v (.int .i64 0),.v (.slice none 0 0),.v (.slice none 0 0),.v (.slice none 0 0),.v (.slice none 0 0)]:=rfl
theorem zrow0 (z : List AV) : zrow 0 z = []:=rfl
theorem rowC_len {α : Type} {c : α→List AV} {k : Nat} (hk : ∀ a,(c a).length = k) : ∀ l : List α,(rowC c l).length = l.length * k
 | []=>by simp [rowC]
 | x :: l=>by
  have ih:=rowC_len hk l
  simp only [rowC,List.map_cons,List.flatten_cons,List.length_append,List.length_cons,hk] at ih ⊢
  rw [ih,Nat.succ_mul,Nat.add_comm]
def addR (l : List Rec) (r : Rec) : List Rec:=if checkR l r = 0 then l ++ [r] else l
theorem refAdd_calls {s : AS} {p : Nat} {l : List Rec} (h : s.objs p = some [recsV l]) (hl : l.length≤2 ^ 30) (r : Rec) (hep : ∀ e ∈ entsR r.group l,0≤e.epoch∧e.epoch≤1048576) :
  ACalls Try.prog Γ 11 [.ptr p 0,.agg r.cells] s (fun v s'=>v = .v (.int .i64 (checkR l r))∧s'.objs p = some [recsV (addR l r)]∧Upd1 p s s'):=by
 refine acalls_body Try.func11 rfl Try.ntmps11 Try.results11 (by simp) ?_
 have hck:=refCheck_calls (Γ:=Γ) h (by omega) r hep
 obtain ⟨V,hV⟩ : ∃ V,V = checkR l r:=⟨_,rfl⟩
 unfold addR
 rw [← hV] at hck ⊢
 clear hV hep
 have hcat : recsV (l ++ [r]) = .sl 9 (l.length + 1) (rowC Rec.cells l ++ r.cells) .any:=by
  unfold recsV
  rw [rowC_app,List.length_append]
  simp [rowC]
 have hXl : (rowC Rec.cells l).length = l.length * 9:=rowC_len (c:=Rec.cells) (k:=9) (fun _=>rfl) l
 have hob:=h
 unfold recsV at hob
 generalize hX : rowC Rec.cells l = X at *
 obtain ⟨rk,rg,re,rt,rb,ry,rtr,rsc,rw'⟩:=r
 unfold Rec.cells at hck hcat ⊢
 simp only at hck hcat ⊢
 unfold bytesV at *
 obtain ⟨VR,hVR⟩ : ∃ VR,VR = AV.rop [.v (.int .i64 rk),.sl 1 rg.length (rg.map byteV) .any,.v (.int .i64 re),.v (.int .i64 rt),.v (.int .i64 rb),.sl 1 ry.length (ry.map byteV) .any,.sl 1 rtr.length (rtr.map byteV) .any,.sl 1 rsc.length (rsc.map byteV) .any,.sl 1 rw'.length (rw'.map byteV) .any]:=⟨_,rfl⟩
 refine awp_reg_frz 3 (by decide) ?_
 intro K hK
 simp only [↓DM,pval,DX,Nz,↓DN,Qa,Qb,Qc,Qd,Qe,Qf,Qg,Qh,reduceCtorEq,↓reduceIte,Na,Nb,Nc,Nk,Nf,Ng,Nh,Za,Zb,Zc,TT]
 intro o3 q3
 refine hK _ _ o3 _ (by simp only [upd,Nc,↓reduceIte]) q3 ?_
 clear hK K q3
 refine wS fun K hK=>?_
 simp only [↓DN,Qa,Qb,Qc,Qd,Qe,Qf,Qg,Qh,reduceCtorEq,↓reduceIte,Na,Nb,Nc,Nk,Nf,Ng,Nh,Za,Zb,Zc,TT]
 refine acallk hck ?_
 rintro r s1 ⟨rfl,rfl⟩
 simp only [↓DM,pval,DX,Nz,↓DN,Qa,Qb,Qc,Qd,Qe,Qf,Qg,Qh,reduceCtorEq,↓reduceIte,Na,Nb,Nc,Nk,Nf,Ng,Nh,Za,Zb,Zc,TT]
 refine hK _ _ ?_;clear hK K
 refine wK fun K hK=>?_
 by_cases hv : V = 0
 ·refine wS fun K hK=>?_
  simp only [↓DN,Qa,Qb,Qc,Qd,Qe,Qf,Qg,Qh,reduceCtorEq,↓reduceIte,Na,Nb,Nc,Nk,Nf,Ng,Nh,Za,Zb,Zc,TT,int_eq_yes hv]
  refine hK _ _ ?_;clear hK K
  refine wC fun X Y hX hY=>?_
  simp only [UP,DF,Nc,↓reduceIte,DB]
  refine hX ?_;clear hX hY X Y
  have hgo : ∀ (E : Env) (s2 : AS) (sp : Sp),E 5 = .v (.int .i64 V)→s2.objs p = some [.sl 9 (l.length + 1) (X ++ [AV.v (.int .i64 rk),.sl 1 rg.length (rg.map byteV) .any,.v (.int .i64 re),.v (.int .i64 rt),.v (.int .i64 rb),.sl 1 ry.length (ry.map byteV) .any,.sl 1 rtr.length (rtr.map byteV) .any,.sl 1 rsc.length (rsc.map byteV) .any,.sl 1 rw'.length (rw'.map byteV) .any]) sp]→Upd1 p s1 s2→K E s2:=by
   intro E s2 sp g5 ho hu
   refine hK _ _ ?_;clear hK K
   refine awp_tells (AS.tells_obj ho (.cons (AV.weak_any (sp:=sp)) .nil)) ?_
   rw [← hcat]
   refine wS fun K hK=>?_
   simp only [↓DN,Qa,Qb,Qc,Qd,Qe,Qf,Qg,Qh,reduceCtorEq,↓reduceIte,Na,Nb,Nc,Nk,Nf,Ng,Nh,Za,Zb,Zc,TT,g5]
   refine hK _ _ ?_;clear hK K
   refine awp_ret ?_
   try simp only [thenQ,blockQ]
   simp only [retQ,AEnds,aresL,ares,List.toList_toArray,↓upd_same]; try simp only [UP,DF,Nc,↓reduceIte,DT]
   exact ⟨_,_,AV.weak.refl _,AS.le.refl _,rfl,by rw [if_pos hv]; exact AS.set_objs_same _ _ _,hu.set _⟩
  clear hK
  have hone : X.all AV.one = true:=by
   rw [← hX,List.all_eq_true]
   intro c hc
   simp only [rowC,List.mem_flatten,List.mem_map] at hc
   obtain ⟨_,⟨n,-,rfl⟩,hc⟩:=hc
   simp only [Rec.cells,List.mem_cons,List.not_mem_nil,or_false] at hc
   rcases hc with rfl | rfl | rfl | rfl | rfl | rfl | rfl | rfl | rfl <;> rfl
  by_cases h0 : l.length = 0
  ·have hX0 : X = []:=List.eq_nil_of_length_eq_zero (by rw [hXl,h0])
   refine awp_drw_end T.mixed [5,6,9,12] (by kernel_rfl) ?_
   intro K hK
   simp only [↓DM,pval,DX,Nz,↓DN,Qa,Qb,Qc,Qd,Qe,Qf,Qg,Qh,reduceCtorEq,↓reduceIte,Na,Nb,Nc,Nk,Nf,Ng,Nh,Za,Zb,Zc,TT,hob,h0,zrow9,zrow0,List.replicate_succ,List.replicate_zero]
   intro t ht
   refine hK _ _ (hgo _ _ (.own t 0) (by simp only [upd,Nc,↓reduceIte]) ?_ (((Upd1.refl p s1).gain ht 0).set _))
   rw [AS.set_objs_same,hX0,h0]
   rfl
  ·refine awp_drw_end T.mixed [5,6,9,12] (by kernel_rfl) ?_
   intro K hK
   simp only [↓DM,pval,DX,Nz,↓DN,Qa,Qb,Qc,Qd,Qe,Qf,Qg,Qh,reduceCtorEq,↓reduceIte,Na,Nb,Nc,Nk,Nf,Ng,Nh,Za,Zb,Zc,TT,hob,h0,hone,zrow9,zrow0,List.replicate_succ,List.replicate_zero]
   refine ⟨by omega,by omega,fun t ht=>⟨by omega,by omega,hK _ _ (hgo _ _ (.own t 1) (by simp only [upd,Nc,↓reduceIte]) ?_ ((((Upd1.refl p s1).gain ht 0).gain ht 1).set _))⟩⟩
   rw [AS.set_objs_same]
 ·refine wS fun K hK=>?_
  simp only [↓DN,Qa,Qb,Qc,Qd,Qe,Qf,Qg,Qh,reduceCtorEq,↓reduceIte,Na,Nb,Nc,Nk,Nf,Ng,Nh,Za,Zb,Zc,TT,int_eq_no hv]
  refine hK _ _ ?_;clear hK K
  refine wC fun X Y hX hY=>?_
  simp only [UP,DF,Nc,↓reduceIte,DB]
  refine hY ?_;clear hX hY X Y
  refine awp_skip ?_
  refine hK _ _ ?_;clear hK K
  refine wS fun K hK=>?_
  simp only [↓DN,Qa,Qb,Qc,Qd,Qe,Qf,Qg,Qh,reduceCtorEq,↓reduceIte,Na,Nb,Nc,Nk,Nf,Ng,Nh,Za,Zb,Zc,TT]
  refine hK _ _ ?_;clear hK K
  refine awp_ret ?_
  try simp only [thenQ,blockQ]
  simp only [retQ,AEnds,aresL,ares,List.toList_toArray,↓upd_same]; try simp only [UP,DF,Nc,↓reduceIte,DT]
  exact ⟨_,_,AV.weak.refl _,AS.le.refl _,rfl,by rw [if_neg hv]; exact h,Upd1.refl _ _⟩
end Go.Proofs.Ytfbbckndpkmfcaa
namespace Go.Proofs.Ytfbbckndpkmfcaa
open Go Go.AM Go.Proofs
variable {Γ : Nat→List AV}
theorem refGroups_calls {s : AS} {p : Nat} {l : List Rec} (h : s.objs p = some [recsV l]) (hl : l.length≤2 ^ 40) : ACalls Try.prog Γ 26 [.ptr p 0] s (fun r s'=>(∃ x,RBuf 1 s s' x (grpsR l).length ((grpsR l).map strC)∧r = x)∧s.le s'):=by
 refine acalls_body Try.func26 rfl Try.ntmps26 Try.results26 (by simp) ?_
 have hrow:=fun i (h : i < l.length)=>row_at (c:=Rec.cells) (k:=9) (fun _=>rfl) h
 unfold recsV at h
 generalize rowC Rec.cells l = X at *
 refine wS fun K hK=>?_
 simp only [↓DN,Qa,Qb,Qc,Qd,Qe,Qf,Qg,Qh,reduceCtorEq,↓reduceIte,Na,Nb,Nc,Nk,Nf,Ng,Nh,Za,Zb,Zc,TT]
 refine hK _ _ ?_;clear hK K
 refine wS fun K hK=>?_
 simp only [↓DN,Qa,Qb,Qc,Qd,Qe,Qf,Qg,Qh,reduceCtorEq,↓reduceIte,Na,Nb,Nc,Nk,Nf,Ng,Nh,Za,Zb,Zc,TT]
 refine hK _ _ ?_;clear hK K
 refine wK fun K hK=>?_
 refine wS fun K hK=>?_
 simp only [↓DN,Qa,Qb,Qc,Qd,Qe,Qf,Qg,Qh,reduceCtorEq,↓reduceIte,Na,Nb,Nc,Nk,Nf,Ng,Nh,Za,Zb,Zc,TT]
 refine hK _ _ ?_;clear hK K
 refine awp_block ?_
 refine awp_loop (fun E s'=>∃ (i : Nat) (x : AV),i≤l.length∧E 4 = .v (.int .i64 i)∧E 0 = .ptr p 0∧E 3 = x∧RBuf 1 s s' x (grpsR (l.take i)).length ((grpsR (l.take i)).map strC)∧(grpsR (l.take i)).length≤i∧s.le s')
  (fun E _=>match E 4 with | .v (.int _ i)=>l.length - i.toNat | _=>0) ?_ ?_
 ·exact ⟨0,nilS,Nat.zero_le _,by simp only [upd,Nc,↓reduceIte]; rfl,by simp only [upd,initE,List.getD_cons_zero,List.getD_cons_succ,Nc,↓reduceIte],by simp only [upd,Nc,↓reduceIte]; rfl,RBuf.nil _ _ _,Nat.le_refl _,AS.le.refl _⟩
 rintro E1 s1 ⟨i,x,hi,g4,g0,g3,hx,hxl,hle⟩ -
 have h1:=hle.objs _ _ h
 refine wK fun K2 hK2=>?_
 by_cases hi' : i < l.length
 ·refine wS fun K hK=>?_
  simp only [↓DN,Qa,Qb,Qc,Qd,Qe,Qf,Qg,Qh,reduceCtorEq,↓reduceIte,Na,Nb,Nc,Nk,Nf,Ng,Nh,Za,Zb,Zc,TT,g4,g0,h1,eye_lt_nat,decide_eq_true hi']
  refine hK _ _ ?_;clear hK K
  refine wC fun X Y hX hY=>?_
  simp only [UP,DF,Nc,↓reduceIte,DB]
  refine hX ?_;clear hX hY X Y
  refine awp_skip ?_
  refine hK2 _ _ ?_;clear hK2 K2
  refine wK fun K3 hK3=>?_
  refine awp_block ?_
  have hge : (0 : Int)≤((i : Nat) : Int):=by omega
  have hat:=hrow i hi'
  have htk : grpsR (l.take (i + 1)) = grpAdd (grpsR (l.take i)) l[i]:=by rw [List.take_succ_eq_append_getElem hi',grpsR_snoc]
  have hend : ∀ (E : Env) (s2 : AS) (x2 : AV),E 4 = .v (.int .i64 i)→E 0 = .ptr p 0→E 3 = x2→RBuf 1 s s2 x2 (grpsR (l.take (i + 1))).length ((grpsR (l.take (i + 1))).map strC)→(grpsR (l.take (i + 1))).length≤i + 1→s.le s2→K3 E s2:=by
   intro E s2 x2 f4 f0 f3 fx fl fle
   refine hK3 _ _ ?_;clear hK3 K3
   refine wE fun K hK=>?_
   simp only [↓DN,Qa,Qb,Qc,Qd,Qe,Qf,Qg,Qh,reduceCtorEq,↓reduceIte,Na,Nb,Nc,Nk,Nf,Ng,Nh,Za,Zb,Zc,TT,f4,eye_succM i (by omega)]
   refine hK _ _ ?_;clear hK K
   refine ⟨⟨i + 1,x2,hi',by simp only [upd,Nc,↓reduceIte],by simp only [upd,f0,Nc,↓reduceIte],by simp only [upd,f3,Nc,↓reduceIte],fx,fl,fle⟩,?_⟩
   simp only [g4,upd,↓reduceIte]
   omega
  clear hK3
  rw [htk] at hend
  clear htk
  generalize grpsR (l.take i) = N at *
  generalize l[i] = r at *
  unfold grpAdd at hend
  obtain ⟨rk,rg,re,rt,rb,ry,rtr,rsc,rw'⟩:=r
  unfold Rec.cells at *
  simp only at *
  unfold bytesV at *
  refine wS fun K hK=>?_
  simp only [↓DN,Qa,Qb,Qc,Qd,Qe,Qf,Qg,Qh,reduceCtorEq,↓reduceIte,Na,Nb,Nc,Nk,Nf,Ng,Nh,Za,Zb,Zc,TT,g4,g0,h1,hge,eye_lt_nat,hi',hat]
  refine hK _ _ ?_;clear hK K
  refine wS fun K hK=>?_
  simp only [↓DN,Qa,Qb,Qc,Qd,Qe,Qf,Qg,Qh,reduceCtorEq,↓reduceIte,Na,Nb,Nc,Nk,Nf,Ng,Nh,Za,Zb,Zc,TT,g4,g0,h1,hge,eye_lt_nat,hi',hat]
  refine hK _ _ ?_;clear hK K
  refine wK fun K4 hK4=>?_
  have hAf : ∀ (E : Env) (b : Bool),E 6 = .v (.bool b)→(b = true↔(rk = 3∨rg ∈ N))→E 3 = x→E 4 = .v (.int .i64 i)→E 0 = .ptr p 0→E 5 = .v (.string ⟨rg.toArray⟩)→K4 E s1:=by
   intro E b f6 hb f3 f4 f0 f5
   refine hK4 _ _ ?_;clear hK4 K4
   cases b with
   | true =>
    rw [if_pos (hb.1 rfl)] at hend
    refine wS fun K hK=>?_
    simp only [↓DN,Qa,Qb,Qc,Qd,Qe,Qf,Qg,Qh,reduceCtorEq,↓reduceIte,Na,Nb,Nc,Nk,Nf,Ng,Nh,Za,Zb,Zc,TT,f6]
    refine hK _ _ ?_;clear hK K
    refine wC fun X Y hX hY=>?_
    simp only [UP,DF,Nc,↓reduceIte,DB]
    refine hY ?_;clear hX hY X Y
    refine awp_skip ?_
    simp only [blockQ,thenQ]
    exact hend _ _ x (by simp only [upd,f4,Nc,↓reduceIte]) (by simp only [upd,f0,Nc,↓reduceIte]) (by simp only [upd,f3,Nc,↓reduceIte]) hx (by omega) hle
   | false =>
    rw [if_neg (fun q=>by have:=hb.2 q; cases this)] at hend
    rw [List.map_append,List.length_append] at hend
    refine wS fun K hK=>?_
    simp only [↓DN,Qa,Qb,Qc,Qd,Qe,Qf,Qg,Qh,reduceCtorEq,↓reduceIte,Na,Nb,Nc,Nk,Nf,Ng,Nh,Za,Zb,Zc,TT,f6]
    refine hK _ _ ?_;clear hK K
    refine wC fun X Y hX hY=>?_
    simp only [UP,DF,Nc,↓reduceIte,DB]
    refine hX ?_;clear hX hY X Y
    rcases hx with ⟨rfl,h0,hL0⟩ | ⟨t,e,rfl,ht,ht0⟩
    ·refine wE fun K hK=>?_
     simp only [↓DN,Qa,Qb,Qc,Qd,Qe,Qf,Qg,Qh,reduceCtorEq,↓reduceIte,Na,Nb,Nc,Nk,Nf,Ng,Nh,Za,Zb,Zc,TT,f3,f5,nilS,List.replicate_succ,List.replicate_zero]
     intro t ht
     have ht0:=own_none_le hle ht
     refine hK _ _ (hend _ _ (.sl 1 1 [.v (.string ⟨rg.toArray⟩)] (.own t 0)) (by simp only [upd,f4,Nc,↓reduceIte]) (by simp only [upd,f0,Nc,↓reduceIte]) (by simp only [upd,Nc,↓reduceIte]) (.inr ⟨t,0,?_,by simp [AS.gain],ht0⟩) (by simp only [List.length_singleton]; omega) (AS.le_gain hle ht0 0))
     rw [h0,hL0]
     rfl
    ·refine wE fun K hK=>?_
     simp only [↓DN,Qa,Qb,Qc,Qd,Qe,Qf,Qg,Qh,reduceCtorEq,↓reduceIte,Na,Nb,Nc,Nk,Nf,Ng,Nh,Za,Zb,Zc,TT,f3,f5,ht,List.replicate_succ,List.replicate_zero]
     refine ⟨by omega,by omega,hK _ _ (hend _ _ (.sl 1 (N.length + 1) (N.map strC ++ [.v (.string ⟨rg.toArray⟩)]) (.own t (e + 1))) (by simp only [upd,f4,Nc,↓reduceIte]) (by simp only [upd,f0,Nc,↓reduceIte]) (by simp only [upd,Nc,↓reduceIte]) (.inr ⟨t,e + 1,rfl,by simp [AS.gain],ht0⟩) (by simp only [List.length_singleton]; omega) (AS.le_gain hle ht0 (e + 1)))⟩
  clear hK4 hend
  have e3 : (rk == 3) = decide (rk = 3):=rfl
  have hsl : ∀ k,(h : k < N.length)→∃ t e,x = .sl 1 N.length (N.map strC) (.own t e):=by
   intro k hk
   rcases hx with ⟨rfl,h0,hL0⟩ | ⟨t,e,rfl,ht,ht0⟩
   ·omega
   ·exact ⟨t,e,rfl⟩
  refine wS fun K hK=>?_
  simp only [↓DN,Qa,Qb,Qc,Qd,Qe,Qf,Qg,Qh,reduceCtorEq,↓reduceIte,Na,Nb,Nc,Nk,Nf,Ng,Nh,Za,Zb,Zc,TT]
  refine hK _ _ ?_;clear hK K
  refine awp_block ?_
  refine awp_loop (fun E s'=>∃ (k : Nat) (b : Bool),k≤N.length∧E 7 = .v (.int .i64 k)∧E 6 = .v (.bool b)∧(b = true↔(rk = 3∨rg ∈ N.take k))∧E 3 = x∧E 4 = .v (.int .i64 i)∧E 0 = .ptr p 0∧E 5 = .v (.string ⟨rg.toArray⟩)∧s' = s1)
   (fun E _=>match E 7 with | .v (.int _ i)=>N.length - i.toNat | _=>0) ?_ ?_
  ·exact ⟨0,rk == 3,Nat.zero_le _,by simp only [upd,↓reduceIte]; rfl,by simp only [upd,Nc,↓reduceIte],by simp,by simp only [upd,g3,Nc,↓reduceIte],by simp only [upd,g4,Nc,↓reduceIte],by simp only [upd,g0,Nc,↓reduceIte],by simp only [upd,Nc,↓reduceIte],rfl⟩
  rintro E2 s2 ⟨k,b,hk,k7,k6,hb,k3,k4,k0,k5,rfl⟩ -
  refine wK fun K5 hK5=>?_
  by_cases hk' : k < N.length
  ·obtain ⟨t,e,rfl⟩:=hsl k hk'
   refine wS fun K hK=>?_
   simp only [↓DN,Qa,Qb,Qc,Qd,Qe,Qf,Qg,Qh,reduceCtorEq,↓reduceIte,Na,Nb,Nc,Nk,Nf,Ng,Nh,Za,Zb,Zc,TT,k7,k3,eye_lt_nat,decide_eq_true hk']
   refine hK _ _ ?_;clear hK K
   refine wC fun X Y hX hY=>?_
   simp only [UP,DF,Nc,↓reduceIte,DB]
   refine hX ?_;clear hX hY X Y
   refine awp_skip ?_
   refine hK5 _ _ ?_;clear hK5 K5
   refine wK fun K6 hK6=>?_
   refine awp_block ?_
   have hge2 : (0 : Int)≤((k : Nat) : Int):=by omega
   have hat2:=take_map strC hk'
   have hend : ∀ (E : Env) (b : Bool),E 7 = .v (.int .i64 k)→E 6 = .v (.bool b)→(b = true↔(rk = 3∨rg ∈ N.take (k + 1)))→E 3 = .sl 1 N.length (N.map strC) (.own t e)→E 4 = .v (.int .i64 i)→E 0 = .ptr p 0→E 5 = .v (.string ⟨rg.toArray⟩)→K6 E s2:=by
    intro E b f7 f6 hb f3 f4 f0 f5
    refine hK6 _ _ ?_;clear hK6 K6
    refine wE fun K hK=>?_
    simp only [↓DN,Qa,Qb,Qc,Qd,Qe,Qf,Qg,Qh,reduceCtorEq,↓reduceIte,Na,Nb,Nc,Nk,Nf,Ng,Nh,Za,Zb,Zc,TT,f7,eye_succM k (by omega)]
    refine hK _ _ ?_;clear hK K
    refine ⟨⟨k + 1,b,hk',by simp only [upd,Nc,↓reduceIte],by simp only [upd,f6,Nc,↓reduceIte],hb,by simp only [upd,f3,Nc,↓reduceIte],by simp only [upd,f4,Nc,↓reduceIte],by simp only [upd,f0,Nc,↓reduceIte],by simp only [upd,f5,Nc,↓reduceIte],rfl⟩,?_⟩
    simp only [k7,upd,↓reduceIte]
    omega
   clear hK6
   rw [List.take_succ_eq_append_getElem hk'] at hend
   simp only [List.mem_append,List.mem_singleton] at hend
   generalize N[k] = g at *
   generalize List.map strC N = XN at *
   unfold strC at hat2
   cases b with
   | true =>
    refine wE fun K hK=>?_
    simp only [↓DN,Qa,Qb,Qc,Qd,Qe,Qf,Qg,Qh,reduceCtorEq,↓reduceIte,Na,Nb,Nc,Nk,Nf,Ng,Nh,Za,Zb,Zc,TT,k6]
    refine hK _ _ ?_;clear hK K
    exact hend _ true (by simp only [upd,k7,Nc,↓reduceIte]) (by simp only [upd,Nc,↓reduceIte]) (by have:=hb.1 rfl; grind) (by simp only [upd,k3,Nc,↓reduceIte]) (by simp only [upd,k4,Nc,↓reduceIte]) (by simp only [upd,k0,Nc,↓reduceIte]) (by simp only [upd,k5,Nc,↓reduceIte])
   | false =>
    refine wE fun K hK=>?_
    simp only [↓DN,Qa,Qb,Qc,Qd,Qe,Qf,Qg,Qh,reduceCtorEq,↓reduceIte,Na,Nb,Nc,Nk,Nf,Ng,Nh,Za,Zb,Zc,TT,k6,k3,k7,k5,hge2,eye_lt_nat,hk',hat2]
    refine hK _ _ ?_;clear hK K
    exact hend _ (g == rg) (by simp only [upd,k7,Nc,↓reduceIte]) (by simp only [upd,Nc,↓reduceIte]) (by have : ¬ (rk = 3∨rg ∈ N.take k):=(fun q=>by have:=hb.2 q; cases this); grind) (by simp only [upd,k3,Nc,↓reduceIte]) (by simp only [upd,k4,Nc,↓reduceIte]) (by simp only [upd,k0,Nc,↓reduceIte]) (by simp only [upd,k5,Nc,↓reduceIte])
  ·have hlen : ∀ (K : Env→AS→Prop) (E : Env) (s : AS),K E s→K E s:=fun _ _ _ h=>h
   clear hlen
   obtain rfl : k = N.length:=by omega
   rw [List.take_length] at hb
   rcases hx with ⟨rfl,h0,hL0⟩ | ⟨t,e,rfl,ht,ht0⟩
   ·unfold nilS at k3 hAf
    refine wS fun K hK=>?_
    simp only [↓DN,Qa,Qb,Qc,Qd,Qe,Qf,Qg,Qh,reduceCtorEq,↓reduceIte,Na,Nb,Nc,Nk,Nf,Ng,Nh,Za,Zb,Zc,TT,k7,k3,show decide (((N.length : Nat) : Int) < ((0 : Nat) : Int)) = false from (by rw [h0]; rfl),show decide (((N.length : Nat) : Int) < (0 : Int)) = false from (by rw [h0]; rfl)]
    refine hK _ _ ?_;clear hK K
    refine wC fun X Y hX hY=>?_
    simp only [UP,DF,Nc,↓reduceIte,DB]
    refine hY ?_;clear hX hY X Y
    refine awp_exit ?_
    simp only [thenQ,blockQ,if_true]
    exact hAf _ b (by simp only [upd,k6,Nc,↓reduceIte]) hb (by simp only [upd,k3,Nc,↓reduceIte]) (by simp only [upd,k4,Nc,↓reduceIte]) (by simp only [upd,k0,Nc,↓reduceIte]) (by simp only [upd,k5,Nc,↓reduceIte])
   ·refine wS fun K hK=>?_
    simp only [↓DN,Qa,Qb,Qc,Qd,Qe,Qf,Qg,Qh,reduceCtorEq,↓reduceIte,Na,Nb,Nc,Nk,Nf,Ng,Nh,Za,Zb,Zc,TT,k7,k3,eye_lt_nat,decide_eq_false hk']
    refine hK _ _ ?_;clear hK K
    refine wC fun X Y hX hY=>?_
    simp only [UP,DF,Nc,↓reduceIte,DB]
    refine hY ?_;clear hX hY X Y
    refine awp_exit ?_
    simp only [thenQ,blockQ,if_true]
    exact hAf _ b (by simp only [upd,k6,Nc,↓reduceIte]) hb (by simp only [upd,k3,Nc,↓reduceIte]) (by simp only [upd,k4,Nc,↓reduceIte]) (by simp only [upd,k0,Nc,↓reduceIte]) (by simp only [upd,k5,Nc,↓reduceIte])
 ·refine wS fun K hK=>?_
  simp only [↓DN,Qa,Qb,Qc,Qd,Qe,Qf,Qg,Qh,reduceCtorEq,↓reduceIte,Na,Nb,Nc,Nk,Nf,Ng,Nh,Za,Zb,Zc,TT,g4,g0,h1,eye_lt_nat,decide_eq_false hi']
  refine hK _ _ ?_;clear hK K
  refine wC fun X Y hX hY=>?_
  simp only [UP,DF,Nc,↓reduceIte,DB]
  refine hY ?_;clear hX hY X Y
  refine awp_exit ?_
  simp only [thenQ,blockQ,if_true]
  refine hK _ _ ?_;clear hK hK2 K2 K
  rw [List.take_of_length_le (by omega)] at hx
  refine wS fun K hK=>?_
  simp only [↓DN,Qa,Qb,Qc,Qd,Qe,Qf,Qg,Qh,reduceCtorEq,↓reduceIte,Na,Nb,Nc,Nk,Nf,Ng,Nh,Za,Zb,Zc,TT,g3]
  refine hK _ _ ?_;clear hK K
  refine awp_ret ?_
  try simp only [thenQ,blockQ]
  simp only [retQ,AEnds,aresL,ares,List.toList_toArray,↓upd_same]; try simp only [UP,DF,Nc,↓reduceIte,DT]
  exact ⟨_,_,AV.weak.refl _,AS.le.refl _,⟨x,hx,rfl⟩,hle⟩
end Go.Proofs.Ytfbbckndpkmfcaa
