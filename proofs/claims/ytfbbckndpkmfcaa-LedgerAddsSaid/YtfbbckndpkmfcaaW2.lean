/- Contracts of the program's functions, each walked once; the conditions stand in each theorem. -/
import Derived.Test.YtfbbckndpkmfcaaAMp6
import Derived.Test.YtfbbckndpkmfcaaW1
import Derived.Test.YtfbbckndpkmfcaaAMp4
import Derived.Test.YtfbbckndpkmfcaaAMp3
set_option linter.unusedSimpArgs false
set_option linter.unusedVariables false
open Nat renaming reduceLT → Na, reduceLeDiff → Nb, reduceEqDiff → Nc, reduceAdd → Nk, reduceMul → Nf, reducePow → Ng, reduceSub → Nh, reduceBEq → Nz
open Int renaming reduceLT → Za, reduceLE → Zb, reduceToNat → Zc
open Go.AM renaming ashift → Qa, aconv → Qb, aindexAddr → Qc, aindex → Qd, aslice → Qe, abuiltin → Qf, awp_reg_seq → wS, awp_reg_end → wE, awp_seq_k → wK, awp_cond_k → wC
open Go.AM.AV renaming cells → Qg, one → Qh
set_option maxRecDepth 100000
set_option maxHeartbeats 8000000
set_option autoImplicit false
namespace Go.Proofs.Ytfbbckndpkmfcaa
open Go Go.AM Go.Proofs
variable {Γ : Nat→List AV}
theorem within_calls (n m : Int) (s : AS) : ACalls Try.prog Γ 43 [.v (.int .i64 n),.v (.int .i64 m)] s (fun r s'=>r = .v (.bool (decide (0≤n) && decide (n≤m)))∧s' = s):=by
 refine acalls_body Try.func43 rfl Try.ntmps43 Try.results43 (by simp) ?_
 rcases ff2 (decide (0≤n)) (decide (n≤m)) with hd | hd | hd
 all_goals
  refine wS fun K hK=>?_
  simp only [↓DN,Qa,Qb,Qc,Qd,Qe,Qf,Qg,Qh,reduceCtorEq,↓reduceIte,Na,Nb,Nc,Nk,Nf,Ng,Nh,Za,Zb,Zc,TT]
  refine hK _ _ ?_;clear hK K
  refine wS fun K hK=>?_
  simp only [↓DN,Qa,Qb,Qc,Qd,Qe,Qf,Qg,Qh,reduceCtorEq,↓reduceIte,Na,Nb,Nc,Nk,Nf,Ng,Nh,Za,Zb,Zc,TT,hd]
  refine hK _ _ ?_;clear hK K
  refine awp_ret ?_
  simp only [retQ,AEnds,aresL,ares,List.toList_toArray,↓upd_same]; try simp only [UP,DF,Nc,↓reduceIte,DT]
  refine ⟨_,_,AV.weak.refl _,AS.le.refl _,?_,rfl⟩
  simp only [hd,Bool.and_true,Bool.true_and,Bool.false_and,Bool.and_false]
theorem i64_eq_one3 (x : Int) (h : x = 3) : (x == 3) = true:=by subst h; rfl
theorem i64_ne_three (x : Int) (h : x≠3) : (x == 3) = false:=by simpa using h
theorem recRight_calls (R : Rec) (s : AS) : ACalls Try.prog Γ 22 [.agg R.cells] s (fun r s'=>r = .v (.bool (decide R.right))∧s' = s):=by
 refine acalls_body Try.func22 rfl Try.ntmps22 Try.results22 (by simp) ?_
 unfold Rec.cells
 obtain ⟨k,g,e,t,u,y,tr,sc,wr⟩:=R
 refine wS fun K hK=>?_
 simp only [↓DN,Qa,Qb,Qc,Qd,Qe,Qf,Qg,Qh,reduceCtorEq,↓reduceIte,Na,Nb,Nc,Nk,Nf,Ng,Nh,Za,Zb,Zc,TT]
 intro o ho
 refine hK _ _ ?_;clear hK K
 refine wS fun K hK=>?_
 simp only [↓DN,Qa,Qb,Qc,Qd,Qe,Qf,Qg,Qh,reduceCtorEq,↓reduceIte,Na,Nb,Nc,Nk,Nf,Ng,Nh,Za,Zb,Zc,TT]
 refine hK _ _ ?_;clear hK K
 refine wK fun K hK=>?_
 have hgo : ∀ (hh ww : Int) (hw : (k = 3∧hh = 0∧ww = 0)∨(k≠3∧hh = 32∧ww = 48)) (E1 : Env),E1 1 = .ptr o 0→E1 3 = .v (.int .i64 hh)→E1 4 = .v (.int .i64 ww)→K E1 (s.set o [.v (.int .i64 k),.sl 1 g.length (g.map byteV) .any,.v (.int .i64 e),.v (.int .i64 t),.v (.int .i64 u),.sl 1 y.length (y.map byteV) .any,.sl 1 tr.length (tr.map byteV) .any,.sl 1 sc.length (sc.map byteV) .any,.sl 1 wr.length (wr.map byteV) .any]):=by
  intro hh ww hw E1 e1 e3 e4
  refine hK _ _ ?_;clear hK K
  rcases ff11 (decide (1≤k)) (decide (k≤3)) (decide (1≤(g.length : Int))) (decide ((g.length : Int)≤16)) (decide (0≤e) && decide (e≤1048576)) (decide (0≤t) && decide (t≤1099511627776)) (decide (0≤u) && decide (u≤1099511627776))
   (decide ((y.length : Int)≤60000)) ((tr.length : Int) == hh) ((sc.length : Int) == hh) ((wr.length : Int) == ww) with hd | hd | hd | hd | hd | hd | hd | hd | hd | hd | hd | hd
  ·refine wS fun K hK=>?_
   simp only [↓DN,Qa,Qb,Qc,Qd,Qe,Qf,Qg,Qh,reduceCtorEq,↓reduceIte,Na,Nb,Nc,Nk,Nf,Ng,Nh,Za,Zb,Zc,TT,e1,e3,e4,hd]
   refine hK _ _ ?_;clear hK K
   refine awp_ret ?_
   simp only [retQ,AEnds,aresL,ares,List.toList_toArray,↓upd_same]; try simp only [UP,DF,Nc,↓reduceIte,DT]
   refine ⟨_,s,AV.weak.refl _,AS.le_set (AS.le.refl s) ho _,?_,rfl⟩
   rw [right_bool _ hh ww hw]
   simp only [hd,Bool.and_true,Bool.true_and,Bool.false_and,Bool.and_false]
  ·refine wS fun K hK=>?_
   simp only [↓DN,Qa,Qb,Qc,Qd,Qe,Qf,Qg,Qh,reduceCtorEq,↓reduceIte,Na,Nb,Nc,Nk,Nf,Ng,Nh,Za,Zb,Zc,TT,e1,e3,e4,hd]
   refine hK _ _ ?_;clear hK K
   refine awp_ret ?_
   simp only [retQ,AEnds,aresL,ares,List.toList_toArray,↓upd_same]; try simp only [UP,DF,Nc,↓reduceIte,DT]
   refine ⟨_,s,AV.weak.refl _,AS.le_set (AS.le.refl s) ho _,?_,rfl⟩
   rw [right_bool _ hh ww hw]
   simp only [hd,Bool.and_true,Bool.true_and,Bool.false_and,Bool.and_false]
  ·refine wS fun K hK=>?_
   simp only [↓DN,Qa,Qb,Qc,Qd,Qe,Qf,Qg,Qh,reduceCtorEq,↓reduceIte,Na,Nb,Nc,Nk,Nf,Ng,Nh,Za,Zb,Zc,TT,e1,e3,e4,hd]
   refine hK _ _ ?_;clear hK K
   refine awp_ret ?_
   simp only [retQ,AEnds,aresL,ares,List.toList_toArray,↓upd_same]; try simp only [UP,DF,Nc,↓reduceIte,DT]
   refine ⟨_,s,AV.weak.refl _,AS.le_set (AS.le.refl s) ho _,?_,rfl⟩
   rw [right_bool _ hh ww hw]
   simp only [hd,Bool.and_true,Bool.true_and,Bool.false_and,Bool.and_false]
  ·refine wS fun K hK=>?_
   simp only [↓DN,Qa,Qb,Qc,Qd,Qe,Qf,Qg,Qh,reduceCtorEq,↓reduceIte,Na,Nb,Nc,Nk,Nf,Ng,Nh,Za,Zb,Zc,TT,e1,e3,e4,hd]
   refine hK _ _ ?_;clear hK K
   refine awp_ret ?_
   simp only [retQ,AEnds,aresL,ares,List.toList_toArray,↓upd_same]; try simp only [UP,DF,Nc,↓reduceIte,DT]
   refine ⟨_,s,AV.weak.refl _,AS.le_set (AS.le.refl s) ho _,?_,rfl⟩
   rw [right_bool _ hh ww hw]
   simp only [hd,Bool.and_true,Bool.true_and,Bool.false_and,Bool.and_false]
  ·refine wS fun K hK=>?_
   simp only [↓DN,Qa,Qb,Qc,Qd,Qe,Qf,Qg,Qh,reduceCtorEq,↓reduceIte,Na,Nb,Nc,Nk,Nf,Ng,Nh,Za,Zb,Zc,TT,e1,e3,e4,hd]
   refine acallk (within_calls e 1048576 _) ?_
   rintro r s' ⟨rfl,rfl⟩
   simp only [↓DM,pval,DX,Nz,↓DN,Qa,Qb,Qc,Qd,Qe,Qf,Qg,Qh,reduceCtorEq,↓reduceIte,Na,Nb,Nc,Nk,Nf,Ng,Nh,Za,Zb,Zc,TT,e1,e3,e4,hd]
   refine hK _ _ ?_;clear hK K
   refine awp_ret ?_
   simp only [retQ,AEnds,aresL,ares,List.toList_toArray,↓upd_same]; try simp only [UP,DF,Nc,↓reduceIte,DT]
   refine ⟨_,s,AV.weak.refl _,AS.le_set (AS.le.refl s) ho _,?_,rfl⟩
   rw [right_bool _ hh ww hw]
   simp only [hd,Bool.and_true,Bool.true_and,Bool.false_and,Bool.and_false]
  ·refine wS fun K hK=>?_
   simp only [↓DN,Qa,Qb,Qc,Qd,Qe,Qf,Qg,Qh,reduceCtorEq,↓reduceIte,Na,Nb,Nc,Nk,Nf,Ng,Nh,Za,Zb,Zc,TT,e1,e3,e4,hd]
   refine acallk (within_calls e 1048576 _) ?_
   rintro r s' ⟨rfl,rfl⟩
   simp only [↓DM,pval,DX,Nz,↓DN,Qa,Qb,Qc,Qd,Qe,Qf,Qg,Qh,reduceCtorEq,↓reduceIte,Na,Nb,Nc,Nk,Nf,Ng,Nh,Za,Zb,Zc,TT,e1,e3,e4,hd]
   refine acallk (within_calls t 1099511627776 _) ?_
   rintro r s' ⟨rfl,rfl⟩
   simp only [↓DM,pval,DX,Nz,↓DN,Qa,Qb,Qc,Qd,Qe,Qf,Qg,Qh,reduceCtorEq,↓reduceIte,Na,Nb,Nc,Nk,Nf,Ng,Nh,Za,Zb,Zc,TT,e1,e3,e4,hd]
   refine hK _ _ ?_;clear hK K
   refine awp_ret ?_
   simp only [retQ,AEnds,aresL,ares,List.toList_toArray,↓upd_same]; try simp only [UP,DF,Nc,↓reduceIte,DT]
   refine ⟨_,s,AV.weak.refl _,AS.le_set (AS.le.refl s) ho _,?_,rfl⟩
   rw [right_bool _ hh ww hw]
   simp only [hd,Bool.and_true,Bool.true_and,Bool.false_and,Bool.and_false]
  ·refine wS fun K hK=>?_
   simp only [↓DN,Qa,Qb,Qc,Qd,Qe,Qf,Qg,Qh,reduceCtorEq,↓reduceIte,Na,Nb,Nc,Nk,Nf,Ng,Nh,Za,Zb,Zc,TT,e1,e3,e4,hd]
   refine acallk (within_calls e 1048576 _) ?_
   rintro r s' ⟨rfl,rfl⟩
   simp only [↓DM,pval,DX,Nz,↓DN,Qa,Qb,Qc,Qd,Qe,Qf,Qg,Qh,reduceCtorEq,↓reduceIte,Na,Nb,Nc,Nk,Nf,Ng,Nh,Za,Zb,Zc,TT,e1,e3,e4,hd]
   refine acallk (within_calls t 1099511627776 _) ?_
   rintro r s' ⟨rfl,rfl⟩
   simp only [↓DM,pval,DX,Nz,↓DN,Qa,Qb,Qc,Qd,Qe,Qf,Qg,Qh,reduceCtorEq,↓reduceIte,Na,Nb,Nc,Nk,Nf,Ng,Nh,Za,Zb,Zc,TT,e1,e3,e4,hd]
   refine acallk (within_calls u 1099511627776 _) ?_
   rintro r s' ⟨rfl,rfl⟩
   simp only [↓DM,pval,DX,Nz,↓DN,Qa,Qb,Qc,Qd,Qe,Qf,Qg,Qh,reduceCtorEq,↓reduceIte,Na,Nb,Nc,Nk,Nf,Ng,Nh,Za,Zb,Zc,TT,e1,e3,e4,hd]
   refine hK _ _ ?_;clear hK K
   refine awp_ret ?_
   simp only [retQ,AEnds,aresL,ares,List.toList_toArray,↓upd_same]; try simp only [UP,DF,Nc,↓reduceIte,DT]
   refine ⟨_,s,AV.weak.refl _,AS.le_set (AS.le.refl s) ho _,?_,rfl⟩
   rw [right_bool _ hh ww hw]
   simp only [hd,Bool.and_true,Bool.true_and,Bool.false_and,Bool.and_false]
  ·refine wS fun K hK=>?_
   simp only [↓DN,Qa,Qb,Qc,Qd,Qe,Qf,Qg,Qh,reduceCtorEq,↓reduceIte,Na,Nb,Nc,Nk,Nf,Ng,Nh,Za,Zb,Zc,TT,e1,e3,e4,hd]
   refine acallk (within_calls e 1048576 _) ?_
   rintro r s' ⟨rfl,rfl⟩
   simp only [↓DM,pval,DX,Nz,↓DN,Qa,Qb,Qc,Qd,Qe,Qf,Qg,Qh,reduceCtorEq,↓reduceIte,Na,Nb,Nc,Nk,Nf,Ng,Nh,Za,Zb,Zc,TT,e1,e3,e4,hd]
   refine acallk (within_calls t 1099511627776 _) ?_
   rintro r s' ⟨rfl,rfl⟩
   simp only [↓DM,pval,DX,Nz,↓DN,Qa,Qb,Qc,Qd,Qe,Qf,Qg,Qh,reduceCtorEq,↓reduceIte,Na,Nb,Nc,Nk,Nf,Ng,Nh,Za,Zb,Zc,TT,e1,e3,e4,hd]
   refine acallk (within_calls u 1099511627776 _) ?_
   rintro r s' ⟨rfl,rfl⟩
   simp only [↓DM,pval,DX,Nz,↓DN,Qa,Qb,Qc,Qd,Qe,Qf,Qg,Qh,reduceCtorEq,↓reduceIte,Na,Nb,Nc,Nk,Nf,Ng,Nh,Za,Zb,Zc,TT,e1,e3,e4,hd]
   refine hK _ _ ?_;clear hK K
   refine awp_ret ?_
   simp only [retQ,AEnds,aresL,ares,List.toList_toArray,↓upd_same]; try simp only [UP,DF,Nc,↓reduceIte,DT]
   refine ⟨_,s,AV.weak.refl _,AS.le_set (AS.le.refl s) ho _,?_,rfl⟩
   rw [right_bool _ hh ww hw]
   simp only [hd,Bool.and_true,Bool.true_and,Bool.false_and,Bool.and_false]
  ·refine wS fun K hK=>?_
   simp only [↓DN,Qa,Qb,Qc,Qd,Qe,Qf,Qg,Qh,reduceCtorEq,↓reduceIte,Na,Nb,Nc,Nk,Nf,Ng,Nh,Za,Zb,Zc,TT,e1,e3,e4,hd]
   refine acallk (within_calls e 1048576 _) ?_
   rintro r s' ⟨rfl,rfl⟩
   simp only [↓DM,pval,DX,Nz,↓DN,Qa,Qb,Qc,Qd,Qe,Qf,Qg,Qh,reduceCtorEq,↓reduceIte,Na,Nb,Nc,Nk,Nf,Ng,Nh,Za,Zb,Zc,TT,e1,e3,e4,hd]
   refine acallk (within_calls t 1099511627776 _) ?_
   rintro r s' ⟨rfl,rfl⟩
   simp only [↓DM,pval,DX,Nz,↓DN,Qa,Qb,Qc,Qd,Qe,Qf,Qg,Qh,reduceCtorEq,↓reduceIte,Na,Nb,Nc,Nk,Nf,Ng,Nh,Za,Zb,Zc,TT,e1,e3,e4,hd]
   refine acallk (within_calls u 1099511627776 _) ?_
   rintro r s' ⟨rfl,rfl⟩
   simp only [↓DM,pval,DX,Nz,↓DN,Qa,Qb,Qc,Qd,Qe,Qf,Qg,Qh,reduceCtorEq,↓reduceIte,Na,Nb,Nc,Nk,Nf,Ng,Nh,Za,Zb,Zc,TT,e1,e3,e4,hd]
   refine hK _ _ ?_;clear hK K
   refine awp_ret ?_
   simp only [retQ,AEnds,aresL,ares,List.toList_toArray,↓upd_same]; try simp only [UP,DF,Nc,↓reduceIte,DT]
   refine ⟨_,s,AV.weak.refl _,AS.le_set (AS.le.refl s) ho _,?_,rfl⟩
   rw [right_bool _ hh ww hw]
   simp only [hd,Bool.and_true,Bool.true_and,Bool.false_and,Bool.and_false]
  ·refine wS fun K hK=>?_
   simp only [↓DN,Qa,Qb,Qc,Qd,Qe,Qf,Qg,Qh,reduceCtorEq,↓reduceIte,Na,Nb,Nc,Nk,Nf,Ng,Nh,Za,Zb,Zc,TT,e1,e3,e4,hd]
   refine acallk (within_calls e 1048576 _) ?_
   rintro r s' ⟨rfl,rfl⟩
   simp only [↓DM,pval,DX,Nz,↓DN,Qa,Qb,Qc,Qd,Qe,Qf,Qg,Qh,reduceCtorEq,↓reduceIte,Na,Nb,Nc,Nk,Nf,Ng,Nh,Za,Zb,Zc,TT,e1,e3,e4,hd]
   refine acallk (within_calls t 1099511627776 _) ?_
   rintro r s' ⟨rfl,rfl⟩
   simp only [↓DM,pval,DX,Nz,↓DN,Qa,Qb,Qc,Qd,Qe,Qf,Qg,Qh,reduceCtorEq,↓reduceIte,Na,Nb,Nc,Nk,Nf,Ng,Nh,Za,Zb,Zc,TT,e1,e3,e4,hd]
   refine acallk (within_calls u 1099511627776 _) ?_
   rintro r s' ⟨rfl,rfl⟩
   simp only [↓DM,pval,DX,Nz,↓DN,Qa,Qb,Qc,Qd,Qe,Qf,Qg,Qh,reduceCtorEq,↓reduceIte,Na,Nb,Nc,Nk,Nf,Ng,Nh,Za,Zb,Zc,TT,e1,e3,e4,hd]
   refine hK _ _ ?_;clear hK K
   refine awp_ret ?_
   simp only [retQ,AEnds,aresL,ares,List.toList_toArray,↓upd_same]; try simp only [UP,DF,Nc,↓reduceIte,DT]
   refine ⟨_,s,AV.weak.refl _,AS.le_set (AS.le.refl s) ho _,?_,rfl⟩
   rw [right_bool _ hh ww hw]
   simp only [hd,Bool.and_true,Bool.true_and,Bool.false_and,Bool.and_false]
  ·refine wS fun K hK=>?_
   simp only [↓DN,Qa,Qb,Qc,Qd,Qe,Qf,Qg,Qh,reduceCtorEq,↓reduceIte,Na,Nb,Nc,Nk,Nf,Ng,Nh,Za,Zb,Zc,TT,e1,e3,e4,hd]
   refine acallk (within_calls e 1048576 _) ?_
   rintro r s' ⟨rfl,rfl⟩
   simp only [↓DM,pval,DX,Nz,↓DN,Qa,Qb,Qc,Qd,Qe,Qf,Qg,Qh,reduceCtorEq,↓reduceIte,Na,Nb,Nc,Nk,Nf,Ng,Nh,Za,Zb,Zc,TT,e1,e3,e4,hd]
   refine acallk (within_calls t 1099511627776 _) ?_
   rintro r s' ⟨rfl,rfl⟩
   simp only [↓DM,pval,DX,Nz,↓DN,Qa,Qb,Qc,Qd,Qe,Qf,Qg,Qh,reduceCtorEq,↓reduceIte,Na,Nb,Nc,Nk,Nf,Ng,Nh,Za,Zb,Zc,TT,e1,e3,e4,hd]
   refine acallk (within_calls u 1099511627776 _) ?_
   rintro r s' ⟨rfl,rfl⟩
   simp only [↓DM,pval,DX,Nz,↓DN,Qa,Qb,Qc,Qd,Qe,Qf,Qg,Qh,reduceCtorEq,↓reduceIte,Na,Nb,Nc,Nk,Nf,Ng,Nh,Za,Zb,Zc,TT,e1,e3,e4,hd]
   refine hK _ _ ?_;clear hK K
   refine awp_ret ?_
   simp only [retQ,AEnds,aresL,ares,List.toList_toArray,↓upd_same]; try simp only [UP,DF,Nc,↓reduceIte,DT]
   refine ⟨_,s,AV.weak.refl _,AS.le_set (AS.le.refl s) ho _,?_,rfl⟩
   rw [right_bool _ hh ww hw]
   simp only [hd,Bool.and_true,Bool.true_and,Bool.false_and,Bool.and_false]
  ·refine wS fun K hK=>?_
   simp only [↓DN,Qa,Qb,Qc,Qd,Qe,Qf,Qg,Qh,reduceCtorEq,↓reduceIte,Na,Nb,Nc,Nk,Nf,Ng,Nh,Za,Zb,Zc,TT,e1,e3,e4,hd]
   refine acallk (within_calls e 1048576 _) ?_
   rintro r s' ⟨rfl,rfl⟩
   simp only [↓DM,pval,DX,Nz,↓DN,Qa,Qb,Qc,Qd,Qe,Qf,Qg,Qh,reduceCtorEq,↓reduceIte,Na,Nb,Nc,Nk,Nf,Ng,Nh,Za,Zb,Zc,TT,e1,e3,e4,hd]
   refine acallk (within_calls t 1099511627776 _) ?_
   rintro r s' ⟨rfl,rfl⟩
   simp only [↓DM,pval,DX,Nz,↓DN,Qa,Qb,Qc,Qd,Qe,Qf,Qg,Qh,reduceCtorEq,↓reduceIte,Na,Nb,Nc,Nk,Nf,Ng,Nh,Za,Zb,Zc,TT,e1,e3,e4,hd]
   refine acallk (within_calls u 1099511627776 _) ?_
   rintro r s' ⟨rfl,rfl⟩
   simp only [↓DM,pval,DX,Nz,↓DN,Qa,Qb,Qc,Qd,Qe,Qf,Qg,Qh,reduceCtorEq,↓reduceIte,Na,Nb,Nc,Nk,Nf,Ng,Nh,Za,Zb,Zc,TT,e1,e3,e4,hd]
   refine hK _ _ ?_;clear hK K
   refine awp_ret ?_
   simp only [retQ,AEnds,aresL,ares,List.toList_toArray,↓upd_same]; try simp only [UP,DF,Nc,↓reduceIte,DT]
   refine ⟨_,s,AV.weak.refl _,AS.le_set (AS.le.refl s) ho _,?_,rfl⟩
   rw [right_bool _ hh ww hw]
   simp only [hd,Bool.and_true,Bool.true_and,Bool.false_and,Bool.and_false]
 clear hK
 by_cases hk : k = 3
 ·refine wS fun K hK=>?_
  simp only [↓DN,Qa,Qb,Qc,Qd,Qe,Qf,Qg,Qh,reduceCtorEq,↓reduceIte,Na,Nb,Nc,Nk,Nf,Ng,Nh,Za,Zb,Zc,TT,i64_eq_one3 k hk]
  refine hK _ _ ?_;clear hK K
  refine wC fun X Y hX hY=>?_
  simp only [UP,DF,Nc,↓reduceIte,DB]
  refine hX ?_;clear hX hY X Y
  refine wE fun K hK=>?_
  simp only [↓DN,Qa,Qb,Qc,Qd,Qe,Qf,Qg,Qh,reduceCtorEq,↓reduceIte,Na,Nb,Nc,Nk,Nf,Ng,Nh,Za,Zb,Zc,TT]
  refine hK _ _ ?_;clear hK K
  simp only [blockQ,thenQ,if_true,if_false]
  exact hgo 0 0 (.inl ⟨hk,rfl,rfl⟩) _ (by simp only [upd,Nc,↓reduceIte]) (by simp only [upd,Nc,↓reduceIte]) (by simp only [upd,↓reduceIte])
 ·refine wS fun K hK=>?_
  simp only [↓DN,Qa,Qb,Qc,Qd,Qe,Qf,Qg,Qh,reduceCtorEq,↓reduceIte,Na,Nb,Nc,Nk,Nf,Ng,Nh,Za,Zb,Zc,TT,i64_ne_three k hk]
  refine hK _ _ ?_;clear hK K
  refine wC fun X Y hX hY=>?_
  simp only [UP,DF,Nc,↓reduceIte,DB]
  refine hY ?_;clear hX hY X Y
  refine awp_skip ?_
  exact hgo 32 48 (.inr ⟨hk,rfl,rfl⟩) _ (by simp only [upd,Nc,↓reduceIte]) (by simp only [upd,Nc,↓reduceIte]) (by simp only [upd,Nc,↓reduceIte])
theorem refRight12_calls (R : Rec) (s : AS) : ACalls Try.prog Γ 23 [.agg R.cells] s (fun r s'=>r = .v (.bool (decide R.right))∧s' = s):=by
 refine acalls_body Try.func23 rfl Try.ntmps23 Try.results23 (by simp) ?_
 unfold Rec.cells
 obtain ⟨k,g,e,t,u,y,tr,sc,wr⟩:=R
 refine wS fun K hK=>?_
 simp only [↓DN,Qa,Qb,Qc,Qd,Qe,Qf,Qg,Qh,reduceCtorEq,↓reduceIte,Na,Nb,Nc,Nk,Nf,Ng,Nh,Za,Zb,Zc,TT]
 intro o ho
 refine hK _ _ ?_;clear hK K
 refine wS fun K hK=>?_
 simp only [↓DN,Qa,Qb,Qc,Qd,Qe,Qf,Qg,Qh,reduceCtorEq,↓reduceIte,Na,Nb,Nc,Nk,Nf,Ng,Nh,Za,Zb,Zc,TT]
 refine hK _ _ ?_;clear hK K
 refine wK fun K hK=>?_
 have hgo : ∀ (hh ww : Int) (hw : (k = 3∧hh = 0∧ww = 0)∨(k≠3∧hh = 32∧ww = 48)) (E1 : Env),E1 1 = .ptr o 0→E1 3 = .v (.int .i64 hh)→E1 4 = .v (.int .i64 ww)→K E1 (s.set o [.v (.int .i64 k),.sl 1 g.length (g.map byteV) .any,.v (.int .i64 e),.v (.int .i64 t),.v (.int .i64 u),.sl 1 y.length (y.map byteV) .any,.sl 1 tr.length (tr.map byteV) .any,.sl 1 sc.length (sc.map byteV) .any,.sl 1 wr.length (wr.map byteV) .any]):=by
  intro hh ww hw E1 e1 e3 e4
  refine hK _ _ ?_;clear hK K
  refine wK fun K hK=>?_
  have hrb:=right_bool ⟨k,g,e,t,u,y,tr,sc,wr⟩ hh ww hw
  simp only at hrb
  rcases tt6 (decide (k < 1)) (decide (3 < k)) (decide ((g.length : Int) < 1)) (decide (16 < (g.length : Int))) (decide (e < 0)) (decide (1048576 < e)) with hd | hd | hd | hd | hd | hd | hd
  case inr.inr.inr.inr.inr.inr =>
   refine wS fun K hK=>?_
   simp only [↓DN,Qa,Qb,Qc,Qd,Qe,Qf,Qg,Qh,reduceCtorEq,↓reduceIte,Na,Nb,Nc,Nk,Nf,Ng,Nh,Za,Zb,Zc,TT,e1,hd]
   refine hK _ _ ?_;clear hK K
   refine wC fun X Y hX hY=>?_
   simp only [UP,DF,Nc,↓reduceIte,DB]
   refine hY ?_;clear hX hY X Y
   refine awp_skip ?_
   refine hK _ _ ?_;clear hK K
   refine wK fun K hK=>?_
   rcases tt5 (decide (t < 0)) (decide (1099511627776 < t)) (decide (u < 0)) (decide (1099511627776 < u)) (decide (60000 < (y.length : Int))) with he | he | he | he | he | he
   case inr.inr.inr.inr.inr =>
    refine wS fun K hK=>?_
    simp only [↓DN,Qa,Qb,Qc,Qd,Qe,Qf,Qg,Qh,reduceCtorEq,↓reduceIte,Na,Nb,Nc,Nk,Nf,Ng,Nh,Za,Zb,Zc,TT,e1,he]
    refine hK _ _ ?_;clear hK K
    refine wC fun X Y hX hY=>?_
    simp only [UP,DF,Nc,↓reduceIte,DB]
    refine hY ?_;clear hX hY X Y
    refine awp_skip ?_
    refine hK _ _ ?_;clear hK K
    rcases ff3 ((tr.length : Int) == hh) ((sc.length : Int) == hh) ((wr.length : Int) == ww) with hf | hf | hf | hf
    all_goals
     refine wS fun K hK=>?_
     simp only [↓DN,Qa,Qb,Qc,Qd,Qe,Qf,Qg,Qh,reduceCtorEq,↓reduceIte,Na,Nb,Nc,Nk,Nf,Ng,Nh,Za,Zb,Zc,TT,e1,e3,e4,hf]
     refine hK _ _ ?_;clear hK K
     refine awp_ret ?_
     simp only [retQ,AEnds,aresL,ares,List.toList_toArray,↓upd_same]; try simp only [UP,DF,Nc,↓reduceIte,DT]
     refine ⟨_,s,AV.weak.refl _,AS.le_set (AS.le.refl s) ho _,?_,rfl⟩
     rw [hrb]
     simp only [decide_eq_false_iff_not] at hd he
     simp only [hf,Bool.and_true,Bool.and_false,Bool.true_and,Bool.false_and,show decide (1≤k) = true from decide_eq_true (by omega),show decide (k≤3) = true from decide_eq_true (by omega),show decide (1≤(g.length : Int)) = true from decide_eq_true (by omega),show decide ((g.length : Int)≤16) = true from decide_eq_true (by omega),show decide (0≤e) = true from decide_eq_true (by omega),show decide (e≤1048576) = true from decide_eq_true (by omega),
      show decide (0≤t) = true from decide_eq_true (by omega),show decide (t≤1099511627776) = true from decide_eq_true (by omega),show decide (0≤u) = true from decide_eq_true (by omega),show decide (u≤1099511627776) = true from decide_eq_true (by omega),show decide ((y.length : Int)≤60000) = true from decide_eq_true (by omega)]
   all_goals
    refine wS fun K hK=>?_
    simp only [↓DN,Qa,Qb,Qc,Qd,Qe,Qf,Qg,Qh,reduceCtorEq,↓reduceIte,Na,Nb,Nc,Nk,Nf,Ng,Nh,Za,Zb,Zc,TT,e1,he]
    refine hK _ _ ?_;clear hK K
    refine wC fun X Y hX hY=>?_
    simp only [UP,DF,Nc,↓reduceIte,DB]
    refine hX ?_;clear hX hY X Y
    refine wS fun K hK=>?_
    simp only [↓DN,Qa,Qb,Qc,Qd,Qe,Qf,Qg,Qh,reduceCtorEq,↓reduceIte,Na,Nb,Nc,Nk,Nf,Ng,Nh,Za,Zb,Zc,TT]
    refine hK _ _ ?_;clear hK K
    refine awp_ret ?_
    simp only [retQ,AEnds,aresL,ares,List.toList_toArray,↓upd_same]; try simp only [UP,DF,Nc,↓reduceIte,DT]
    refine ⟨_,s,AV.weak.refl _,AS.le_set (AS.le.refl s) ho _,?_,rfl⟩
    have hF : decide (Rec.right ⟨k,g,e,t,u,y,tr,sc,wr⟩) = false:=decide_eq_false fun hr=>by
     have hr':=hr.facts
     simp only at hr'
     simp only [decide_eq_false_iff_not,decide_eq_true_eq] at he
     omega
    rw [hF]
    try rfl
  all_goals
   refine wS fun K hK=>?_
   simp only [↓DN,Qa,Qb,Qc,Qd,Qe,Qf,Qg,Qh,reduceCtorEq,↓reduceIte,Na,Nb,Nc,Nk,Nf,Ng,Nh,Za,Zb,Zc,TT,e1,hd]
   refine hK _ _ ?_;clear hK K
   refine wC fun X Y hX hY=>?_
   simp only [UP,DF,Nc,↓reduceIte,DB]
   refine hX ?_;clear hX hY X Y
   refine wS fun K hK=>?_
   simp only [↓DN,Qa,Qb,Qc,Qd,Qe,Qf,Qg,Qh,reduceCtorEq,↓reduceIte,Na,Nb,Nc,Nk,Nf,Ng,Nh,Za,Zb,Zc,TT]
   refine hK _ _ ?_;clear hK K
   refine awp_ret ?_
   simp only [retQ,AEnds,aresL,ares,List.toList_toArray,↓upd_same]; try simp only [UP,DF,Nc,↓reduceIte,DT]
   refine ⟨_,s,AV.weak.refl _,AS.le_set (AS.le.refl s) ho _,?_,rfl⟩
   have hF : decide (Rec.right ⟨k,g,e,t,u,y,tr,sc,wr⟩) = false:=decide_eq_false fun hr=>by
    have hr':=hr.facts
    simp only at hr'
    simp only [decide_eq_false_iff_not,decide_eq_true_eq] at hd
    omega
   rw [hF]
   try rfl
 clear hK
 by_cases hk : k = 3
 ·refine wS fun K hK=>?_
  simp only [↓DN,Qa,Qb,Qc,Qd,Qe,Qf,Qg,Qh,reduceCtorEq,↓reduceIte,Na,Nb,Nc,Nk,Nf,Ng,Nh,Za,Zb,Zc,TT,i64_eq_one3 k hk]
  refine hK _ _ ?_;clear hK K
  refine wC fun X Y hX hY=>?_
  simp only [UP,DF,Nc,↓reduceIte,DB]
  refine hX ?_;clear hX hY X Y
  refine wS fun K hK=>?_
  simp only [↓DN,Qa,Qb,Qc,Qd,Qe,Qf,Qg,Qh,reduceCtorEq,↓reduceIte,Na,Nb,Nc,Nk,Nf,Ng,Nh,Za,Zb,Zc,TT]
  refine hK _ _ ?_;clear hK K
  refine wE fun K hK=>?_
  simp only [↓DN,Qa,Qb,Qc,Qd,Qe,Qf,Qg,Qh,reduceCtorEq,↓reduceIte,Na,Nb,Nc,Nk,Nf,Ng,Nh,Za,Zb,Zc,TT]
  refine hK _ _ ?_;clear hK K
  simp only [blockQ,thenQ,if_true,if_false]
  exact hgo 0 0 (.inl ⟨hk,rfl,rfl⟩) _ (by simp only [upd,Nc,↓reduceIte]) (by simp only [upd,Nc,↓reduceIte]) (by simp only [upd,↓reduceIte])
 ·refine wS fun K hK=>?_
  simp only [↓DN,Qa,Qb,Qc,Qd,Qe,Qf,Qg,Qh,reduceCtorEq,↓reduceIte,Na,Nb,Nc,Nk,Nf,Ng,Nh,Za,Zb,Zc,TT,i64_ne_three k hk]
  refine hK _ _ ?_;clear hK K
  refine wC fun X Y hX hY=>?_
  simp only [UP,DF,Nc,↓reduceIte,DB]
  refine hY ?_;clear hX hY X Y
  refine awp_skip ?_
  exact hgo 32 48 (.inr ⟨hk,rfl,rfl⟩) _ (by simp only [upd,Nc,↓reduceIte]) (by simp only [upd,Nc,↓reduceIte]) (by simp only [upd,Nc,↓reduceIte])
end Go.Proofs.Ytfbbckndpkmfcaa
namespace Go.Proofs.Ytfbbckndpkmfcaa
open Go Go.AM Go.Proofs
variable {Γ : Nat→List AV}
theorem ledCheck_calls {s0 s : AS} {p : Nat} {L : LedV} {gs : List GEnt} {gt ge b1 b2 : Nat} (h : LedS s0 s p L gs gt ge b1 b2) (hi : L.inv) (r : Rec) :
  ACalls Try.prog Γ 8 [.ptr p 0,.agg r.cells] s (fun v s'=>v = .v (.int .i64 (checkV L r))∧s' = s):=by
 refine ACalls.forget (R:=fun v s'=>v = .v (.int .i64 (checkV L r))∧s' = s) (Q:=fun v s'=>v = .v (.int .i64 (checkV L r))∧s.le s') ?_ fun v s' ⟨h1,h2⟩=>⟨s,h2,h1,rfl⟩
 refine acalls_body Try.func8 rfl Try.ntmps8 Try.results8 (by simp) ?_
 have ho:=h.obj
 have hm1:=h.m1
 have hm2:=h.m2
 have hla:=ledLast_calls (Γ:=Γ) h (hi.gs h.val) r.group
 have hri:=fun s=>recRight_calls (Γ:=Γ) r s
 have hep:=hi.last r.group
 have hf:=find_shr r.bucket L.shr
 have hz : azero Try.prog 4 = some (.bool false):=by kernel_rfl
 have hk : keyPlain (.int .i64) (.int .i64 r.bucket) = true:=rfl
 obtain ⟨V,hV⟩ : ∃ V,V = checkV L r:=⟨_,rfl⟩
 rw [← hV]
 unfold checkV at hV
 generalize lastE (entsOf r.group L.gs) = le at *
 obtain ⟨b6,hb6⟩ : ∃ b,b = decide (entsOf r.group L.gs≠[]):=⟨_,rfl⟩
 rw [← hb6] at hla
 have hem : (entsOf r.group L.gs = []) = (b6 = false):=by rw [hb6]; simp
 have hne : (entsOf r.group L.gs≠[]) = (b6 = true):=by rw [hb6]; simp
 simp only [hem,hne] at hV
 have hob : ∀ {o : Nat} (cs : List AV),s.objs o = none→p≠o:=fun _ hn e=>by rw [← e,ho] at hn; cases hn
 unfold ledC at ho
 have e41 : iadd .i64 le.epoch 1 = le.epoch + 1:=iadd_i64 (by omega)
 obtain ⟨rk,rg,re,rt,rb,ry,rtr,rsc,rw'⟩:=r
 obtain ⟨l1,l2,l3,l4,l5⟩:=le
 unfold Rec.cells EntV.cells at *
 simp only at *
 unfold bytesV at *
 obtain ⟨VR,hVR⟩ : ∃ VR,VR = AV.rop [.v (.int .i64 rk),.sl 1 rg.length (rg.map byteV) .any,.v (.int .i64 re),.v (.int .i64 rt),.v (.int .i64 rb),.sl 1 ry.length (ry.map byteV) .any,.sl 1 rtr.length (rtr.map byteV) .any,.sl 1 rsc.length (rsc.map byteV) .any,.sl 1 rw'.length (rw'.map byteV) .any]:=⟨_,rfl⟩
 refine awp_reg_frz 3 (by decide) ?_
 intro K hK
 simp only [↓DM,pval,DX,Nz,↓DN,Qa,Qb,Qc,Qd,Qe,Qf,Qg,Qh,reduceCtorEq,↓reduceIte,Na,Nb,Nc,Nk,Nf,Ng,Nh,Za,Zb,Zc,TT]
 intro o3 q3
 refine hK _ _ o3 _ (by simp only [upd,Nc,↓reduceIte]) q3 ?_
 clear hK K q3
 refine wS fun K hK=>?_
 simp only [↓DN,Qa,Qb,Qc,Qd,Qe,Qf,Qg,Qh,reduceCtorEq,↓reduceIte,Na,Nb,Nc,Nk,Nf,Ng,Nh,Za,Zb,Zc,TT]
 refine acallk hla ?_
 rintro r s1 ⟨rfl,rfl⟩
 simp only [↓DM,pval,DX,Nz,↓DN,Qa,Qb,Qc,Qd,Qe,Qf,Qg,Qh,reduceCtorEq,↓reduceIte,Na,Nb,Nc,Nk,Nf,Ng,Nh,Za,Zb,Zc,TT]
 intro o5 q5
 refine hK _ _ ?_;clear hK K
 have hp5:=hob [] q5
 have ho':=(AS.set_objs_ne s1 hp5 [.v (.int .i64 l1),.v (.int .i64 l2),.v (.int .i64 l3),.v (.int .i64 l4),.v (.int .i64 l5)]).trans ho
 have hm2' : (s1.set o5 [.v (.int .i64 l1),.v (.int .i64 l2),.v (.int .i64 l3),.v (.int .i64 l4),.v (.int .i64 l5)]).maps b2 = some (.map (L.shr.map shrKV)):=hm2
 have hl5:=AS.set_objs_same s1 o5 [.v (.int .i64 l1),.v (.int .i64 l2),.v (.int .i64 l3),.v (.int .i64 l4),.v (.int .i64 l5)]
 have hle : s1.le (s1.set o5 [.v (.int .i64 l1),.v (.int .i64 l2),.v (.int .i64 l3),.v (.int .i64 l4),.v (.int .i64 l5)]):=AS.le_set (AS.le.refl _) q5 _
 generalize s1.set o5 [.v (.int .i64 l1),.v (.int .i64 l2),.v (.int .i64 l3),.v (.int .i64 l4),.v (.int .i64 l5)] = s2 at ho' hm2' hl5 hle ⊢
 refine wK fun K hK=>?_
 refine awp_block ?_
 refine wS fun K hK=>?_
 simp only [↓DN,Qa,Qb,Qc,Qd,Qe,Qf,Qg,Qh,reduceCtorEq,↓reduceIte,Na,Nb,Nc,Nk,Nf,Ng,Nh,Za,Zb,Zc,TT]
 refine acallk (hri _) ?_
 rintro r s3 ⟨rfl,rfl⟩
 by_cases hr : (⟨rk,rg,re,rt,rb,ry,rtr,rsc,rw'⟩ : Rec).right
 ·rw [if_neg (fun k=>k hr)] at hV
  rw [decide_eq_true hr]
  simp only [↓DM,pval,DX,Nz,↓DN,Qa,Qb,Qc,Qd,Qe,Qf,Qg,Qh,reduceCtorEq,↓reduceIte,Na,Nb,Nc,Nk,Nf,Ng,Nh,Za,Zb,Zc,TT]
  refine hK _ _ ?_;clear hK K
  refine wC fun X Y hX hY=>?_
  simp only [UP,DF,Nc,↓reduceIte,DB]
  refine hY ?_;clear hX hY X Y
  by_cases ht : rt < L.time
  ·rw [if_pos ht] at hV
   refine awp_drw_seq T.mixed [5] (by kernel_rfl) ?_
   intro K hK
   simp only [↓DM,pval,DX,Nz,↓DN,Qa,Qb,Qc,Qd,Qe,Qf,Qg,Qh,reduceCtorEq,↓reduceIte,Na,Nb,Nc,Nk,Nf,Ng,Nh,Za,Zb,Zc,TT,ho',decide_eq_true ht]
   refine hK _ _ ?_;clear hK K
   refine wC fun X Y hX hY=>?_
   simp only [UP,DF,Nc,↓reduceIte,DB]
   refine hX ?_;clear hX hY X Y
   refine wS fun K hK=>?_
   simp only [↓DN,Qa,Qb,Qc,Qd,Qe,Qf,Qg,Qh,reduceCtorEq,↓reduceIte,Na,Nb,Nc,Nk,Nf,Ng,Nh,Za,Zb,Zc,TT]
   refine hK _ _ ?_;clear hK K
   refine awp_ret ?_
   try simp only [thenQ,blockQ]
   simp only [retQ,AEnds,aresL,ares,List.toList_toArray,↓upd_same]; try simp only [UP,DF,Nc,↓reduceIte,DT]
   exact ⟨_,_,AV.weak.refl _,AS.le.refl _,by rw [hV],hle⟩
  ·rw [if_neg ht] at hV
   refine awp_drw_seq T.mixed [5] (by kernel_rfl) ?_
   intro K hK
   simp only [↓DM,pval,DX,Nz,↓DN,Qa,Qb,Qc,Qd,Qe,Qf,Qg,Qh,reduceCtorEq,↓reduceIte,Na,Nb,Nc,Nk,Nf,Ng,Nh,Za,Zb,Zc,TT,ho',decide_eq_false ht]
   refine hK _ _ ?_;clear hK K
   refine wC fun X Y hX hY=>?_
   simp only [UP,DF,Nc,↓reduceIte,DB]
   refine hY ?_;clear hX hY X Y
   by_cases h3 : rk = 3
   ·rw [if_pos h3] at hV
    refine wS fun K hK=>?_
    simp only [↓DN,Qa,Qb,Qc,Qd,Qe,Qf,Qg,Qh,reduceCtorEq,↓reduceIte,Na,Nb,Nc,Nk,Nf,Ng,Nh,Za,Zb,Zc,TT,int_eq_yes h3]
    refine hK _ _ ?_;clear hK K
    refine wC fun X Y hX hY=>?_
    simp only [UP,DF,Nc,↓reduceIte,DB]
    refine hX ?_;clear hX hY X Y
    refine wK fun K2 hK2=>?_
    by_cases hs : rb ∈ L.shr
    ·rw [if_pos hs] at hV hf
     refine awp_drw_seq T.mixed [3,6] (by kernel_rfl) ?_
     intro K hK
     simp only [↓DM,pval,DX,Nz,↓DN,Qa,Qb,Qc,Qd,Qe,Qf,Qg,Qh,reduceCtorEq,↓reduceIte,Na,Nb,Nc,Nk,Nf,Ng,Nh,Za,Zb,Zc,TT,ho',amOf,avOf,hm2',Try.underlying50,Try.underlying3,hz,hk,hf]
     refine hK _ _ ?_;clear hK K
     refine wC fun X Y hX hY=>?_
     simp only [UP,DF,Nc,↓reduceIte,DB]
     refine hX ?_;clear hX hY X Y
     refine wS fun K hK=>?_
     simp only [↓DN,Qa,Qb,Qc,Qd,Qe,Qf,Qg,Qh,reduceCtorEq,↓reduceIte,Na,Nb,Nc,Nk,Nf,Ng,Nh,Za,Zb,Zc,TT]
     refine hK _ _ ?_;clear hK K
     refine awp_ret ?_
     try simp only [thenQ,blockQ]
     simp only [retQ,AEnds,aresL,ares,List.toList_toArray,↓upd_same]; try simp only [UP,DF,Nc,↓reduceIte,DT]
     exact ⟨_,_,AV.weak.refl _,AS.le.refl _,by rw [hV],hle⟩
    ·rw [if_neg hs] at hV hf
     refine awp_drw_seq T.mixed [3,6] (by kernel_rfl) ?_
     intro K hK
     simp only [↓DM,pval,DX,Nz,↓DN,Qa,Qb,Qc,Qd,Qe,Qf,Qg,Qh,reduceCtorEq,↓reduceIte,Na,Nb,Nc,Nk,Nf,Ng,Nh,Za,Zb,Zc,TT,ho',amOf,avOf,hm2',Try.underlying50,Try.underlying3,hz,hk,hf]
     refine hK _ _ ?_;clear hK K
     refine wC fun X Y hX hY=>?_
     simp only [UP,DF,Nc,↓reduceIte,DB]
     refine hY ?_;clear hX hY X Y
     refine awp_skip ?_
     refine hK2 _ _ ?_;clear hK2 K2
     refine wS fun K hK=>?_
     simp only [↓DN,Qa,Qb,Qc,Qd,Qe,Qf,Qg,Qh,reduceCtorEq,↓reduceIte,Na,Nb,Nc,Nk,Nf,Ng,Nh,Za,Zb,Zc,TT]
     refine hK _ _ ?_;clear hK K
     refine awp_ret ?_
     try simp only [thenQ,blockQ]
     simp only [retQ,AEnds,aresL,ares,List.toList_toArray,↓upd_same]; try simp only [UP,DF,Nc,↓reduceIte,DT]
     exact ⟨_,_,AV.weak.refl _,AS.le.refl _,by rw [hV],hle⟩
   ·rw [if_neg h3] at hV
    refine wS fun K hK=>?_
    simp only [↓DN,Qa,Qb,Qc,Qd,Qe,Qf,Qg,Qh,reduceCtorEq,↓reduceIte,Na,Nb,Nc,Nk,Nf,Ng,Nh,Za,Zb,Zc,TT,int_eq_no h3]
    refine hK _ _ ?_;clear hK K
    refine wC fun X Y hX hY=>?_
    simp only [UP,DF,Nc,↓reduceIte,DB]
    refine hY ?_;clear hX hY X Y
    by_cases hs : rb ∈ L.shr
    ·rw [if_pos hs] at hV hf
     refine awp_drw_seq T.mixed [3,6] (by kernel_rfl) ?_
     intro K hK
     simp only [↓DM,pval,DX,Nz,↓DN,Qa,Qb,Qc,Qd,Qe,Qf,Qg,Qh,reduceCtorEq,↓reduceIte,Na,Nb,Nc,Nk,Nf,Ng,Nh,Za,Zb,Zc,TT,ho',amOf,avOf,hm2',Try.underlying50,Try.underlying3,hz,hk,hf]
     refine hK _ _ ?_;clear hK K
     refine wC fun X Y hX hY=>?_
     simp only [UP,DF,Nc,↓reduceIte,DB]
     refine hX ?_;clear hX hY X Y
     refine wS fun K hK=>?_
     simp only [↓DN,Qa,Qb,Qc,Qd,Qe,Qf,Qg,Qh,reduceCtorEq,↓reduceIte,Na,Nb,Nc,Nk,Nf,Ng,Nh,Za,Zb,Zc,TT]
     refine hK _ _ ?_;clear hK K
     refine awp_ret ?_
     try simp only [thenQ,blockQ]
     simp only [retQ,AEnds,aresL,ares,List.toList_toArray,↓upd_same]; try simp only [UP,DF,Nc,↓reduceIte,DT]
     exact ⟨_,_,AV.weak.refl _,AS.le.refl _,by rw [hV],hle⟩
    ·rw [if_neg hs] at hV hf
     refine awp_drw_seq T.mixed [3,6] (by kernel_rfl) ?_
     intro K hK
     simp only [↓DM,pval,DX,Nz,↓DN,Qa,Qb,Qc,Qd,Qe,Qf,Qg,Qh,reduceCtorEq,↓reduceIte,Na,Nb,Nc,Nk,Nf,Ng,Nh,Za,Zb,Zc,TT,ho',amOf,avOf,hm2',Try.underlying50,Try.underlying3,hz,hk,hf]
     refine hK _ _ ?_;clear hK K
     refine wC fun X Y hX hY=>?_
     simp only [UP,DF,Nc,↓reduceIte,DB]
     refine hY ?_;clear hX hY X Y
     cases b6 with
     | false =>
      by_cases h2 : rk = 2
      ·rw [if_pos ⟨h2,rfl⟩] at hV
       refine wS fun K hK=>?_
       simp only [↓DN,Qa,Qb,Qc,Qd,Qe,Qf,Qg,Qh,reduceCtorEq,↓reduceIte,Na,Nb,Nc,Nk,Nf,Ng,Nh,Za,Zb,Zc,TT,int_eq_yes h2]
       refine hK _ _ ?_;clear hK K
       refine wC fun X Y hX hY=>?_
       simp only [UP,DF,Nc,↓reduceIte,DB]
       refine hX ?_;clear hX hY X Y
       refine wS fun K hK=>?_
       simp only [↓DN,Qa,Qb,Qc,Qd,Qe,Qf,Qg,Qh,reduceCtorEq,↓reduceIte,Na,Nb,Nc,Nk,Nf,Ng,Nh,Za,Zb,Zc,TT]
       refine hK _ _ ?_;clear hK K
       refine awp_ret ?_
       try simp only [thenQ,blockQ]
       simp only [retQ,AEnds,aresL,ares,List.toList_toArray,↓upd_same]; try simp only [UP,DF,Nc,↓reduceIte,DT]
       exact ⟨_,_,AV.weak.refl _,AS.le.refl _,by rw [hV],hle⟩
      ·rw [if_neg (fun k=>h2 k.1),if_neg (by rintro (k | k); exact h2 k.1; exact absurd k.2.1 (by decide))] at hV
       refine wS fun K hK=>?_
       simp only [↓DN,Qa,Qb,Qc,Qd,Qe,Qf,Qg,Qh,reduceCtorEq,↓reduceIte,Na,Nb,Nc,Nk,Nf,Ng,Nh,Za,Zb,Zc,TT,int_eq_no h2]
       refine hK _ _ ?_;clear hK K
       refine wC fun X Y hX hY=>?_
       simp only [UP,DF,Nc,↓reduceIte,DB]
       refine hY ?_;clear hX hY X Y
       refine wK fun K2 hK2=>?_
       refine wS fun K hK=>?_
       simp only [↓DN,Qa,Qb,Qc,Qd,Qe,Qf,Qg,Qh,reduceCtorEq,↓reduceIte,Na,Nb,Nc,Nk,Nf,Ng,Nh,Za,Zb,Zc,TT,int_eq_no h2]
       refine hK _ _ ?_;clear hK K
       refine wC fun X Y hX hY=>?_
       simp only [UP,DF,Nc,↓reduceIte,DB]
       refine hY ?_;clear hX hY X Y
       by_cases h1 : rk = 1
       ·refine wE fun K hK=>?_
        simp only [↓DN,Qa,Qb,Qc,Qd,Qe,Qf,Qg,Qh,reduceCtorEq,↓reduceIte,Na,Nb,Nc,Nk,Nf,Ng,Nh,Za,Zb,Zc,TT,int_eq_yes h1]
        refine hK _ _ ?_;clear hK K
        refine hK2 _ _ ?_;clear hK2 K2
        refine wC fun X Y hX hY=>?_
        simp only [UP,DF,Nc,↓reduceIte,DB]
        refine hY ?_;clear hX hY X Y
        refine awp_skip ?_
        refine hK _ _ ?_;clear hK K
        refine wS fun K hK=>?_
        simp only [↓DN,Qa,Qb,Qc,Qd,Qe,Qf,Qg,Qh,reduceCtorEq,↓reduceIte,Na,Nb,Nc,Nk,Nf,Ng,Nh,Za,Zb,Zc,TT]
        refine hK _ _ ?_;clear hK K
        refine awp_ret ?_
        try simp only [thenQ,blockQ]
        simp only [retQ,AEnds,aresL,ares,List.toList_toArray,↓upd_same]; try simp only [UP,DF,Nc,↓reduceIte,DT]
        exact ⟨_,_,AV.weak.refl _,AS.le.refl _,by rw [hV],hle⟩
       ·refine wE fun K hK=>?_
        simp only [↓DN,Qa,Qb,Qc,Qd,Qe,Qf,Qg,Qh,reduceCtorEq,↓reduceIte,Na,Nb,Nc,Nk,Nf,Ng,Nh,Za,Zb,Zc,TT,int_eq_no h1]
        refine hK _ _ ?_;clear hK K
        refine hK2 _ _ ?_;clear hK2 K2
        refine wC fun X Y hX hY=>?_
        simp only [UP,DF,Nc,↓reduceIte,DB]
        refine hY ?_;clear hX hY X Y
        refine awp_skip ?_
        refine hK _ _ ?_;clear hK K
        refine wS fun K hK=>?_
        simp only [↓DN,Qa,Qb,Qc,Qd,Qe,Qf,Qg,Qh,reduceCtorEq,↓reduceIte,Na,Nb,Nc,Nk,Nf,Ng,Nh,Za,Zb,Zc,TT]
        refine hK _ _ ?_;clear hK K
        refine awp_ret ?_
        try simp only [thenQ,blockQ]
        simp only [retQ,AEnds,aresL,ares,List.toList_toArray,↓upd_same]; try simp only [UP,DF,Nc,↓reduceIte,DT]
        exact ⟨_,_,AV.weak.refl _,AS.le.refl _,by rw [hV],hle⟩
     | true =>
      rw [if_neg (fun k=>absurd k.2 (by decide))] at hV
      by_cases h2 : rk = 2
      ·refine wS fun K hK=>?_
       simp only [↓DN,Qa,Qb,Qc,Qd,Qe,Qf,Qg,Qh,reduceCtorEq,↓reduceIte,Na,Nb,Nc,Nk,Nf,Ng,Nh,Za,Zb,Zc,TT,int_eq_yes h2]
       refine hK _ _ ?_;clear hK K
       refine wC fun X Y hX hY=>?_
       simp only [UP,DF,Nc,↓reduceIte,DB]
       refine hY ?_;clear hX hY X Y
       refine wK fun K2 hK2=>?_
       by_cases he : re = l3 + 1
       ·rw [if_neg (by rintro (k | k); exact k.2 he; omega)] at hV
        refine wS fun K hK=>?_
        simp only [↓DN,Qa,Qb,Qc,Qd,Qe,Qf,Qg,Qh,reduceCtorEq,↓reduceIte,Na,Nb,Nc,Nk,Nf,Ng,Nh,Za,Zb,Zc,TT,int_eq_yes h2,hl5,e41,int_bne_false he]
        refine hK _ _ ?_;clear hK K
        refine wC fun X Y hX hY=>?_
        simp only [UP,DF,Nc,↓reduceIte,DB]
        refine hY ?_;clear hX hY X Y
        have h1 : rk≠1:=by omega
        refine wE fun K hK=>?_
        simp only [↓DN,Qa,Qb,Qc,Qd,Qe,Qf,Qg,Qh,reduceCtorEq,↓reduceIte,Na,Nb,Nc,Nk,Nf,Ng,Nh,Za,Zb,Zc,TT,int_eq_no h1]
        refine hK _ _ ?_;clear hK K
        refine hK2 _ _ ?_;clear hK2 K2
        refine wC fun X Y hX hY=>?_
        simp only [UP,DF,Nc,↓reduceIte,DB]
        refine hY ?_;clear hX hY X Y
        refine awp_skip ?_
        refine hK _ _ ?_;clear hK K
        refine wS fun K hK=>?_
        simp only [↓DN,Qa,Qb,Qc,Qd,Qe,Qf,Qg,Qh,reduceCtorEq,↓reduceIte,Na,Nb,Nc,Nk,Nf,Ng,Nh,Za,Zb,Zc,TT]
        refine hK _ _ ?_;clear hK K
        refine awp_ret ?_
        try simp only [thenQ,blockQ]
        simp only [retQ,AEnds,aresL,ares,List.toList_toArray,↓upd_same]; try simp only [UP,DF,Nc,↓reduceIte,DT]
        exact ⟨_,_,AV.weak.refl _,AS.le.refl _,by rw [hV],hle⟩
       ·rw [if_pos (.inl ⟨h2,he⟩)] at hV
        refine wS fun K hK=>?_
        simp only [↓DN,Qa,Qb,Qc,Qd,Qe,Qf,Qg,Qh,reduceCtorEq,↓reduceIte,Na,Nb,Nc,Nk,Nf,Ng,Nh,Za,Zb,Zc,TT,int_eq_yes h2,hl5,e41,int_bne_true he]
        refine hK _ _ ?_;clear hK K
        refine wC fun X Y hX hY=>?_
        simp only [UP,DF,Nc,↓reduceIte,DB]
        refine hX ?_;clear hX hY X Y
        refine awp_skip ?_
        refine hK2 _ _ ?_;clear hK2 K2
        refine wC fun X Y hX hY=>?_
        simp only [UP,DF,Nc,↓reduceIte,DB]
        refine hX ?_;clear hX hY X Y
        refine wS fun K hK=>?_
        simp only [↓DN,Qa,Qb,Qc,Qd,Qe,Qf,Qg,Qh,reduceCtorEq,↓reduceIte,Na,Nb,Nc,Nk,Nf,Ng,Nh,Za,Zb,Zc,TT]
        refine hK _ _ ?_;clear hK K
        refine awp_ret ?_
        try simp only [thenQ,blockQ]
        simp only [retQ,AEnds,aresL,ares,List.toList_toArray,↓upd_same]; try simp only [UP,DF,Nc,↓reduceIte,DT]
        exact ⟨_,_,AV.weak.refl _,AS.le.refl _,by rw [hV],hle⟩
      ·refine wS fun K hK=>?_
       simp only [↓DN,Qa,Qb,Qc,Qd,Qe,Qf,Qg,Qh,reduceCtorEq,↓reduceIte,Na,Nb,Nc,Nk,Nf,Ng,Nh,Za,Zb,Zc,TT,int_eq_no h2]
       refine hK _ _ ?_;clear hK K
       refine wC fun X Y hX hY=>?_
       simp only [UP,DF,Nc,↓reduceIte,DB]
       refine hY ?_;clear hX hY X Y
       refine wK fun K2 hK2=>?_
       refine wS fun K hK=>?_
       simp only [↓DN,Qa,Qb,Qc,Qd,Qe,Qf,Qg,Qh,reduceCtorEq,↓reduceIte,Na,Nb,Nc,Nk,Nf,Ng,Nh,Za,Zb,Zc,TT,int_eq_no h2]
       refine hK _ _ ?_;clear hK K
       refine wC fun X Y hX hY=>?_
       simp only [UP,DF,Nc,↓reduceIte,DB]
       refine hY ?_;clear hX hY X Y
       by_cases h1 : rk = 1
       ·by_cases he : re≤l3
        ·rw [if_pos (.inr ⟨h1,rfl,he⟩)] at hV
         refine wE fun K hK=>?_
         simp only [↓DN,Qa,Qb,Qc,Qd,Qe,Qf,Qg,Qh,reduceCtorEq,↓reduceIte,Na,Nb,Nc,Nk,Nf,Ng,Nh,Za,Zb,Zc,TT,int_eq_yes h1,hl5,decide_eq_true he]
         refine hK _ _ ?_;clear hK K
         refine hK2 _ _ ?_;clear hK2 K2
         refine wC fun X Y hX hY=>?_
         simp only [UP,DF,Nc,↓reduceIte,DB]
         refine hX ?_;clear hX hY X Y
         refine wS fun K hK=>?_
         simp only [↓DN,Qa,Qb,Qc,Qd,Qe,Qf,Qg,Qh,reduceCtorEq,↓reduceIte,Na,Nb,Nc,Nk,Nf,Ng,Nh,Za,Zb,Zc,TT]
         refine hK _ _ ?_;clear hK K
         refine awp_ret ?_
         try simp only [thenQ,blockQ]
         simp only [retQ,AEnds,aresL,ares,List.toList_toArray,↓upd_same]; try simp only [UP,DF,Nc,↓reduceIte,DT]
         exact ⟨_,_,AV.weak.refl _,AS.le.refl _,by rw [hV],hle⟩
        ·rw [if_neg (by rintro (k | k); exact h2 k.1; exact he k.2.2)] at hV
         refine wE fun K hK=>?_
         simp only [↓DN,Qa,Qb,Qc,Qd,Qe,Qf,Qg,Qh,reduceCtorEq,↓reduceIte,Na,Nb,Nc,Nk,Nf,Ng,Nh,Za,Zb,Zc,TT,int_eq_yes h1,hl5,decide_eq_false he]
         refine hK _ _ ?_;clear hK K
         refine hK2 _ _ ?_;clear hK2 K2
         refine wC fun X Y hX hY=>?_
         simp only [UP,DF,Nc,↓reduceIte,DB]
         refine hY ?_;clear hX hY X Y
         refine awp_skip ?_
         refine hK _ _ ?_;clear hK K
         refine wS fun K hK=>?_
         simp only [↓DN,Qa,Qb,Qc,Qd,Qe,Qf,Qg,Qh,reduceCtorEq,↓reduceIte,Na,Nb,Nc,Nk,Nf,Ng,Nh,Za,Zb,Zc,TT]
         refine hK _ _ ?_;clear hK K
         refine awp_ret ?_
         try simp only [thenQ,blockQ]
         simp only [retQ,AEnds,aresL,ares,List.toList_toArray,↓upd_same]; try simp only [UP,DF,Nc,↓reduceIte,DT]
         exact ⟨_,_,AV.weak.refl _,AS.le.refl _,by rw [hV],hle⟩
       ·rw [if_neg (by rintro (k | k); exact h2 k.1; exact h1 k.1)] at hV
        refine wE fun K hK=>?_
        simp only [↓DN,Qa,Qb,Qc,Qd,Qe,Qf,Qg,Qh,reduceCtorEq,↓reduceIte,Na,Nb,Nc,Nk,Nf,Ng,Nh,Za,Zb,Zc,TT,int_eq_no h1]
        refine hK _ _ ?_;clear hK K
        refine hK2 _ _ ?_;clear hK2 K2
        refine wC fun X Y hX hY=>?_
        simp only [UP,DF,Nc,↓reduceIte,DB]
        refine hY ?_;clear hX hY X Y
        refine awp_skip ?_
        refine hK _ _ ?_;clear hK K
        refine wS fun K hK=>?_
        simp only [↓DN,Qa,Qb,Qc,Qd,Qe,Qf,Qg,Qh,reduceCtorEq,↓reduceIte,Na,Nb,Nc,Nk,Nf,Ng,Nh,Za,Zb,Zc,TT]
        refine hK _ _ ?_;clear hK K
        refine awp_ret ?_
        try simp only [thenQ,blockQ]
        simp only [retQ,AEnds,aresL,ares,List.toList_toArray,↓upd_same]; try simp only [UP,DF,Nc,↓reduceIte,DT]
        exact ⟨_,_,AV.weak.refl _,AS.le.refl _,by rw [hV],hle⟩
 ·rw [if_pos hr] at hV
  rw [decide_eq_false hr]
  simp only [↓DM,pval,DX,Nz,↓DN,Qa,Qb,Qc,Qd,Qe,Qf,Qg,Qh,reduceCtorEq,↓reduceIte,Na,Nb,Nc,Nk,Nf,Ng,Nh,Za,Zb,Zc,TT]
  refine hK _ _ ?_;clear hK K
  refine wC fun X Y hX hY=>?_
  simp only [UP,DF,Nc,↓reduceIte,DB]
  refine hX ?_;clear hX hY X Y
  refine wS fun K hK=>?_
  simp only [↓DN,Qa,Qb,Qc,Qd,Qe,Qf,Qg,Qh,reduceCtorEq,↓reduceIte,Na,Nb,Nc,Nk,Nf,Ng,Nh,Za,Zb,Zc,TT]
  refine hK _ _ ?_;clear hK K
  refine awp_ret ?_
  try simp only [thenQ,blockQ]
  simp only [retQ,AEnds,aresL,ares,List.toList_toArray,↓upd_same]; try simp only [UP,DF,Nc,↓reduceIte,DT]
  exact ⟨_,_,AV.weak.refl _,AS.le.refl _,by rw [hV],hle⟩
end Go.Proofs.Ytfbbckndpkmfcaa
namespace Go.Proofs.Ytfbbckndpkmfcaa
open Go Go.AM Go.Proofs
variable {Γ : Nat→List AV}
theorem own_none_le {a b : AS} {t : Nat} (h : a.le b) (k : b.own t = none) : a.own t = none:=by
 cases ho : a.own t with
 | none=>rfl
 | some e=>rw [h.own t e ho] at k; cases k
theorem zrow5 : zrow 5 [AV.v (.int .i64 0),.v (.int .i64 0),.v (.int .i64 0),.v (.int .i64 0),.v (.int .i64 0)] = [AV.v (.int .i64 0),.v (.int .i64 0),.v (.int .i64 0),.v (.int .i64 0),.v (.int .i64 0)]:=rfl
theorem ledAdd_calls {s0 s : AS} {p : Nat} {L : LedV} {gs : List GEnt} {gt ge b1 b2 : Nat} (h : LedS s0 s p L gs gt ge b1 b2) (hi : L.inv) (hc : 0≤L.count∧L.count≤2 ^ 40) (hg : gs.length≤2 ^ 40) (r : Rec) :
  ACalls Try.prog Γ 10 [.ptr p 0,.agg r.cells] s (fun v s'=>v = .v (.int .i64 (checkV L r))∧∃ gs' gt' ge',LedS s0 s' p (addV L r) gs' gt' ge' b1 b2):=by
 refine acalls_body Try.func10 rfl Try.ntmps10 Try.results10 (by simp) ?_
 have ho:=h.obj
 have hm1:=h.m1
 have hm2:=h.m2
 have hck:=ledCheck_calls (Γ:=Γ) h hi r
 have hfe:=find_grp r.group gs
 have hz : azero Try.prog 58 = some (.slice none 0 0):=by kernel_rfl
 have hkb : keyPlain (.int .i64) (.int .i64 r.bucket) = true:=rfl
 have hkg : keyPlain .string (.string ⟨r.group.toArray⟩) = true:=rfl
 have hcase:=lookE (gs:=gs) r.group
 rw [← h.val] at hcase
 have hss:=fun hn=>set_shr r.bucket L.shr hn
 have hsg:=fun v=>set_grp r.group v gs
 obtain ⟨V,hV⟩ : ∃ V,V = checkV L r:=⟨_,rfl⟩
 rw [← hV] at hck ⊢
 have hadd0 : V≠0→addV L r = L:=fun k=>by unfold addV; rw [← hV,if_pos k]
 have hadd3 : V = 0→r.kind = 3→addV L r = ⟨L.count + 1,r.time,L.gs,L.shr ++ [r.bucket]⟩:=fun k k3=>by unfold addV; rw [← hV,if_neg (fun q=>q k),if_pos k3]
 have hadde : V = 0→r.kind≠3→addV L r = ⟨L.count + 1,r.time,setE r.group (entsOf r.group L.gs ++ [entOf L r]) L.gs,L.shr⟩:=fun k k3=>by unfold addV; rw [← hV,if_neg (fun q=>q k),if_neg k3]
 have hnot : V = 0→r.kind = 3→r.bucket ∉ L.shr:=by
  intro k k3 hm
  rw [k] at hV
  unfold checkV at hV
  by_cases a : ¬ r.right
  ·rw [if_pos a] at hV
   cases hV
  ·rw [if_neg a] at hV
   by_cases b : r.time < L.time
   ·rw [if_pos b] at hV
    cases hV
   ·rw [if_neg b,if_pos k3,if_pos hm] at hV
    cases hV
 obtain ⟨LA,hLA⟩ : ∃ LA,LA = addV L r:=⟨_,rfl⟩
 rw [← hLA] at hadd0 hadd3 hadde ⊢
 unfold entOf at hadde
 have e1 : iadd .i64 L.count 1 = L.count + 1:=iadd_i64 (by omega)
 unfold ledC at ho
 obtain ⟨rk,rg,re,rt,rb,ry,rtr,rsc,rw'⟩:=r
 unfold Rec.cells at *
 simp only at *
 unfold bytesV at *
 clear hV hLA
 obtain ⟨VR,hVR⟩ : ∃ VR,VR = AV.rop [.v (.int .i64 rk),.sl 1 rg.length (rg.map byteV) .any,.v (.int .i64 re),.v (.int .i64 rt),.v (.int .i64 rb),.sl 1 ry.length (ry.map byteV) .any,.sl 1 rtr.length (rtr.map byteV) .any,.sl 1 rsc.length (rsc.map byteV) .any,.sl 1 rw'.length (rw'.map byteV) .any]:=⟨_,rfl⟩
 refine awp_reg_frz 3 (by decide) ?_
 intro K hK
 simp only [↓DM,pval,DX,Nz,↓DN,Qa,Qb,Qc,Qd,Qe,Qf,Qg,Qh,reduceCtorEq,↓reduceIte,Na,Nb,Nc,Nk,Nf,Ng,Nh,Za,Zb,Zc,TT]
 intro o3 q3
 refine hK _ _ o3 _ (by simp only [upd,Nc,↓reduceIte]) q3 ?_
 clear hK K q3
 refine wK fun K hK=>?_
 refine wS fun K hK=>?_
 simp only [↓DN,Qa,Qb,Qc,Qd,Qe,Qf,Qg,Qh,reduceCtorEq,↓reduceIte,Na,Nb,Nc,Nk,Nf,Ng,Nh,Za,Zb,Zc,TT]
 refine acallk hck ?_
 rintro r s1 ⟨rfl,rfl⟩
 simp only [↓DM,pval,DX,Nz,↓DN,Qa,Qb,Qc,Qd,Qe,Qf,Qg,Qh,reduceCtorEq,↓reduceIte,Na,Nb,Nc,Nk,Nf,Ng,Nh,Za,Zb,Zc,TT]
 refine hK _ _ ?_;clear hK K
 by_cases hv : V = 0
 ·refine wS fun K hK=>?_
  simp only [↓DN,Qa,Qb,Qc,Qd,Qe,Qf,Qg,Qh,reduceCtorEq,↓reduceIte,Na,Nb,Nc,Nk,Nf,Ng,Nh,Za,Zb,Zc,TT,int_bne_false hv]
  refine hK _ _ ?_;clear hK K
  refine wC fun X Y hX hY=>?_
  simp only [UP,DF,Nc,↓reduceIte,DB]
  refine hY ?_;clear hX hY X Y
  refine awp_skip ?_
  refine hK _ _ ?_;clear hK K
  refine wK fun K hK=>?_
  have hJ : ∀ (E : Env) (s5 : AS) (xg : AV),E 0 = .ptr p 0→E 3 = VR→s5.objs p = some [.v (.int .i64 L.count),.v (.int .i64 L.time),xg,.v (.map (some b1)),.v (.map (some b2))] →
    (∃ gs' gt' ge',LedS s0 (s5.set p [.v (.int .i64 (L.count + 1)),.v (.int .i64 rt),xg,.v (.map (some b1)),.v (.map (some b2))]) p LA gs' gt' ge' b1 b2)→K E s5:=by
   intro E s5 xg g0 g3 hob hpost
   refine hK _ _ ?_;clear hK K
   refine wS fun K hK=>?_
   simp only [↓DN,Qa,Qb,Qc,Qd,Qe,Qf,Qg,Qh,reduceCtorEq,↓reduceIte,Na,Nb,Nc,Nk,Nf,Ng,Nh,Za,Zb,Zc,TT,g0,hob,e1]
   refine hK _ _ ?_;clear hK K
   refine wS fun K hK=>?_
   simp only [↓DN,Qa,Qb,Qc,Qd,Qe,Qf,Qg,Qh,reduceCtorEq,↓reduceIte,Na,Nb,Nc,Nk,Nf,Ng,Nh,Za,Zb,Zc,TT,g0,g3,hVR,AS.set_objs_same]
   refine hK _ _ ?_;clear hK K
   refine wS fun K hK=>?_
   simp only [↓DN,Qa,Qb,Qc,Qd,Qe,Qf,Qg,Qh,reduceCtorEq,↓reduceIte,Na,Nb,Nc,Nk,Nf,Ng,Nh,Za,Zb,Zc,TT]
   refine hK _ _ ?_;clear hK K
   refine awp_ret ?_
   try simp only [thenQ,blockQ]
   simp only [retQ,AEnds,aresL,ares,List.toList_toArray,↓upd_same]; try simp only [UP,DF,Nc,↓reduceIte,DT]
   rw [hv]
   exact ⟨_,_,AV.weak.refl _,AS.le.refl _,rfl,hpost⟩
  clear hK
  by_cases h3 : rk = 3
  ·have hn:=hnot hv h3
   refine wS fun K hK=>?_
   simp only [↓DN,Qa,Qb,Qc,Qd,Qe,Qf,Qg,Qh,reduceCtorEq,↓reduceIte,Na,Nb,Nc,Nk,Nf,Ng,Nh,Za,Zb,Zc,TT,int_eq_yes h3]
   refine hK _ _ ?_;clear hK K
   refine wC fun X Y hX hY=>?_
   simp only [UP,DF,Nc,↓reduceIte,DB]
   refine hX ?_;clear hX hY X Y
   refine awp_drw_end T.mixed [3,6] (by kernel_rfl) ?_
   intro K hK
   simp only [↓DM,pval,DX,Nz,↓DN,Qa,Qb,Qc,Qd,Qe,Qf,Qg,Qh,reduceCtorEq,↓reduceIte,Na,Nb,Nc,Nk,Nf,Ng,Nh,Za,Zb,Zc,TT,ho,amOf,avOf,hm2,Try.underlying50,Try.underlying3,hkb,hss hn]
   refine hK _ _ ?_;clear hK K
   refine hJ _ _ (grpAV gs gt ge) (by simp only [upd,initE,List.getD_cons_zero,List.getD_cons_succ,Nc,↓reduceIte]) (by rw [hVR]; exact (by simp only [upd,Nc,↓reduceIte])) (by rw [AS.setMap_objs]; exact ho) ⟨gs,gt,ge,?_⟩
   rw [hadd3 hv h3]
   exact {
    val:=h.val
    obj:=by rw [AS.set_objs_same]; rfl
    m1:=by rw [AS.set_maps,AS.setMap_ne _ h.ne]; exact hm1
    m2:=by rw [AS.set_maps,AS.setMap_same,List.map_append]; rfl
    ne:=h.ne
    own:=h.own
    nodup:=h.nodup
    gown:=h.gown
    p0:=h.p0
    b10:=h.b10
    b20:=h.b20
    le:=AS.le_set (AS.le_setMap h.le h.b20 _) h.p0 _ }
  ·refine wS fun K hK=>?_
   simp only [↓DN,Qa,Qb,Qc,Qd,Qe,Qf,Qg,Qh,reduceCtorEq,↓reduceIte,Na,Nb,Nc,Nk,Nf,Ng,Nh,Za,Zb,Zc,TT,int_eq_no h3]
   refine hK _ _ ?_;clear hK K
   refine wC fun X Y hX hY=>?_
   simp only [UP,DF,Nc,↓reduceIte,DB]
   refine hY ?_;clear hX hY X Y
   refine wS fun K hK=>?_
   simp only [↓DN,Qa,Qb,Qc,Qd,Qe,Qf,Qg,Qh,reduceCtorEq,↓reduceIte,Na,Nb,Nc,Nk,Nf,Ng,Nh,Za,Zb,Zc,TT]
   refine hK _ _ ?_;clear hK K
   rcases hcase with ⟨q1,q2,_⟩ | ⟨x,hx,q1,q2,q3,_⟩
   ·rw [q1] at hfe
    simp only [Option.map_none] at hfe
    refine wK fun K hK=>?_
    have hN : ∀ (E : Env) (s5 : AS) (gt' ge' : Nat),E 0 = .ptr p 0→E 3 = VR→E 6 = .v (.string ⟨rg.toArray⟩)→s5.objs p = some [.v (.int .i64 L.count),.v (.int .i64 L.time),.sl 1 (gs.length + 1) ((gs.map fun x=>strC x.g) ++ [strC rg]) (.own gt' ge'),.v (.map (some b1)),.v (.map (some b2))] →
      s5.maps = s1.maps→s5.own gt' = some ge'→(∀ x ∈ gs,s5.own x.t = some x.e)→s0.own gt' = none→gt' ∉ gs.map GEnt.t→s0.le s5→K E s5:=by
     intro E s5 gt' ge' g0 g3 g6 hob hmp how hox h0 hnin hle5
     refine hK _ _ ?_;clear hK K
     have hm1' : s5.maps b1 = some (.map (gs.map GEnt.kv)):=by rw [hmp]; exact hm1
     have hix : (gs.findIdx? fun x=>decide (rg = x.g)) = none:=by
      rw [List.findIdx?_eq_none_iff]
      intro x hx
      have:=List.find?_eq_none.1 q1 x hx
      simpa using this
     have hsgv : ∀ v,amSet .string (.string ⟨rg.toArray⟩) v (gs.map GEnt.kv) = some (gs.map GEnt.kv ++ [(.string ⟨rg.toArray⟩,v)]):=fun v=>by rw [hsg v,hix]
     generalize hXG : (AV.sl 1 (gs.length + 1) ((gs.map fun x=>strC x.g) ++ [strC rg]) (.own gt' ge')) = XG at hob
     refine awp_mrk_end T.mixed [(p,[.v (.int .i64 L.count),.v (.int .i64 L.time),XG,.v (.map (some b1)),.v (.map (some b2))])] [10,25,26] [3,8,14] [] (by kernel_rfl) (by simp only [Pres_cons,Pres_nil,and_true]; simp [AS.set,upd,hob]) ?_
     intro K hK
     simp only [↓AXr_nil,↓AXr_cons,gval,lval,fzGet_cons,fzGet_nil,Pres_cons,Pres_nil,List.any_cons,List.any_nil,List.contains_cons,List.contains_nil,Nat.reduceBEq,Bool.or_false,Bool.or_true,Bool.or_self,Bool.false_or,↓DN,Qa,Qb,Qc,Qd,Qe,Qf,Qg,Qh,reduceCtorEq,↓reduceIte,Na,Nb,Nc,Nk,Nf,Ng,Nh,Za,Zb,Zc,TT,g0,g3,hVR,g6,hob,amOf,avOf,hm1',AS.gain_maps,AS.setMap_objs,Try.underlying49,Try.underlying9,hz,hkg,hfe,hsgv,zrow5,List.replicate_succ,List.replicate_zero]
     intro t ht
     have ht0 : s0.own t = none:=own_none_le hle5 ht
     have htg : t≠gt':=by rintro rfl; rw [how] at ht; cases ht
     have htx : ∀ x ∈ gs,t≠x.t:=by
      rintro x hx rfl
      rw [hox x hx] at ht
      cases ht
     refine hK _ _ ?_
     refine hJ _ _ XG (by simp only [upd,g0,Nc,↓reduceIte]) (by simp only [upd,g3,Nc,↓reduceIte]) (by rw [AS.setMap_objs,AS.gain_objs]; exact hob) ⟨gs ++ [⟨rg,[⟨L.count,rk,re,rt,rb⟩],t,0⟩],gt',ge',?_⟩
     rw [hadde hv h3,q2]
     exact {
      val:=by rw [setE_new (hasE_none q1 h.val)]; simp [GEnt.val,h.val]
      obj:=by rw [AS.set_objs_same,← hXG]; unfold ledC grpAV; simp
      m1:=by rw [AS.set_maps,AS.setMap_same]; simp [GEnt.kv,GEnt.av,rowC,EntV.cells]
      m2:=by rw [AS.set_maps,AS.setMap_ne _ h.ne.symm,AS.gain_maps,hmp]; exact hm2
      ne:=h.ne
      own:=by
       intro x hx
       rw [List.mem_append,List.mem_singleton] at hx
       rcases hx with hx | rfl
       ·have e:=htx x hx
        refine ⟨?_,(h.own x hx).2⟩
        simp [AS.gain,AS.set,AS.setMap,AS.putM,upd,e.symm,hox x hx]
       ·exact ⟨by simp [AS.gain,AS.set,AS.setMap,AS.putM],ht0⟩
      nodup:=by
       rw [List.map_append,List.nodup_append]
       refine ⟨h.nodup,by simp,?_⟩
       intro a ha b hb e
       simp only [List.map_cons,List.map_nil,List.mem_singleton] at hb
       obtain ⟨x,hx,rfl⟩:=List.mem_map.1 ha
       exact htx x hx (by rw [e,hb])
      gown:=by
       intro _
       refine ⟨by simp [AS.gain,AS.set,AS.setMap,AS.putM,upd,htg.symm,how],h0,?_⟩
       rw [List.map_append,List.mem_append]
       rintro (hx | hx)
       ·exact hnin hx
       ·simp only [List.map_cons,List.map_nil,List.mem_singleton] at hx
        exact htg hx.symm
      p0:=h.p0
      b10:=h.b10
      b20:=h.b20
      le:=AS.le_set (AS.le_setMap (AS.le_gain hle5 ht0 0) h.b10 _) h.p0 _ }
    clear hK
    refine wS fun K hK=>?_
    simp only [↓DN,Qa,Qb,Qc,Qd,Qe,Qf,Qg,Qh,reduceCtorEq,↓reduceIte,Na,Nb,Nc,Nk,Nf,Ng,Nh,Za,Zb,Zc,TT,ho,amOf,avOf,hm1,Try.underlying49,Try.underlying9,hz,hkg,hfe,show (((0 : Nat) : Int) == 0) = true from rfl]
    refine hK _ _ ?_;clear hK K
    refine wC fun X Y hX hY=>?_
    simp only [UP,DF,Nc,↓reduceIte,DB]
    refine hX ?_;clear hX hY X Y
    have hps : ∀ o,s0.objs o = none→True:=fun _ _=>trivial
    by_cases hgs : gs = []
    ·have hgv : grpAV gs gt ge = nilS:=if_pos hgs
     rw [hgv] at ho
     unfold nilS at ho
     refine wE fun K hK=>?_
     simp only [↓DN,Qa,Qb,Qc,Qd,Qe,Qf,Qg,Qh,reduceCtorEq,↓reduceIte,Na,Nb,Nc,Nk,Nf,Ng,Nh,Za,Zb,Zc,TT,ho,List.replicate_succ,List.replicate_zero]
     intro t ht
     have ht0 : s0.own t = none:=own_none_le h.le ht
     refine hK _ _ (hN _ _ t 0 (by simp only [upd,initE,List.getD_cons_zero,List.getD_cons_succ,Nc,↓reduceIte]) (by rw [hVR]; exact (by simp only [upd,Nc,↓reduceIte])) (by simp only [upd,Nc,↓reduceIte]) ?_ rfl (by simp [AS.gain,AS.set]) (by rw [hgs]; intro x hx; cases hx) ht0 (by rw [hgs]; simp) (AS.le_set (AS.le_gain h.le ht0 0) h.p0 _))
     rw [AS.set_objs_same,hgs]
     rfl
    ·obtain ⟨w1,w2,w3⟩:=h.gown hgs
     have hgv : grpAV gs gt ge = .sl 1 gs.length (gs.map fun x=>strC x.g) (.own gt ge):=if_neg hgs
     rw [hgv] at ho
     refine wE fun K hK=>?_
     simp only [↓DN,Qa,Qb,Qc,Qd,Qe,Qf,Qg,Qh,reduceCtorEq,↓reduceIte,Na,Nb,Nc,Nk,Nf,Ng,Nh,Za,Zb,Zc,TT,ho,w1,List.replicate_succ,List.replicate_zero]
     refine ⟨by omega,by omega,hK _ _ (hN _ _ gt (ge + 1) (by simp only [upd,initE,List.getD_cons_zero,List.getD_cons_succ,Nc,↓reduceIte]) (by rw [hVR]; exact (by simp only [upd,Nc,↓reduceIte])) (by simp only [upd,Nc,↓reduceIte]) ?_ rfl (by simp [AS.gain,AS.set]) ?_ w2 w3 (AS.le_set (AS.le_gain h.le w2 _) h.p0 _))⟩
     ·rw [AS.set_objs_same]
      rfl
     ·intro x hx
      have e : x.t≠gt:=fun e=>w3 (e ▸ List.mem_map_of_mem hx)
      simp [AS.gain,AS.set,upd,e,(h.own x hx).1]
   ·rw [q1] at hfe
    simp only [Option.map_some,GEnt.av] at hfe
    obtain ⟨hne,hl40⟩:=hi.gs h.val x hx
    obtain ⟨i,hii,hxi,hix⟩:=find_idx q1
    have hsgv : ∀ v,amSet .string (.string ⟨rg.toArray⟩) v (gs.map GEnt.kv) = some ((gs.map GEnt.kv).modify i fun y=>(y.1,v)):=fun v=>by rw [hsg v,hix]
    have hl0 : 0 < x.es.length:=List.length_pos_iff.2 hne
    have e0 : ((x.es.length : Int) == 0) = false:=by rw [beq_eq_false_iff_ne]; omega
    obtain ⟨w1,w2⟩:=h.own x hx
    generalize hXG : grpAV gs gt ge = XG at ho
    generalize hXE : rowC EntV.cells x.es = XE at *
    refine wK fun K hK=>?_
    refine wS fun K hK=>?_
    simp only [↓DN,Qa,Qb,Qc,Qd,Qe,Qf,Qg,Qh,reduceCtorEq,↓reduceIte,Na,Nb,Nc,Nk,Nf,Ng,Nh,Za,Zb,Zc,TT,ho,amOf,avOf,hm1,Try.underlying49,Try.underlying9,hz,hkg,hfe,e0]
    refine hK _ _ ?_;clear hK K
    refine wC fun X Y hX hY=>?_
    simp only [UP,DF,Nc,↓reduceIte,DB]
    refine hY ?_;clear hX hY X Y
    refine awp_skip ?_
    refine hK _ _ ?_;clear hK K
    refine awp_mrk_end T.mixed [(p,[.v (.int .i64 L.count),.v (.int .i64 L.time),XG,.v (.map (some b1)),.v (.map (some b2))])] [10,25,26] [3,8,14] [] (by kernel_rfl) (by simp only [Pres_cons,Pres_nil,and_true]; simp [AS.set,upd,ho]) ?_
    intro K hK
    simp only [↓AXr_nil,↓AXr_cons,gval,lval,fzGet_cons,fzGet_nil,Pres_cons,Pres_nil,List.any_cons,List.any_nil,List.contains_cons,List.contains_nil,Nat.reduceBEq,Bool.or_false,Bool.or_true,Bool.or_self,Bool.false_or,↓DN,Qa,Qb,Qc,Qd,Qe,Qf,Qg,Qh,reduceCtorEq,↓reduceIte,Na,Nb,Nc,Nk,Nf,Ng,Nh,Za,Zb,Zc,TT,ho,amOf,avOf,hm1,w1,AS.gain_maps,AS.setMap_objs,Try.underlying49,Try.underlying9,hz,hkg,hfe,hsgv,zrow5,List.replicate_succ,List.replicate_zero]
    refine ⟨by omega,by omega,?_⟩
    refine hK _ _ ?_
    refine hJ _ _ XG (by simp only [upd,initE,List.getD_cons_zero,List.getD_cons_succ,Nc,↓reduceIte]) (by rw [hVR]; exact (by simp only [upd,Nc,↓reduceIte])) (by rw [AS.setMap_objs,AS.gain_objs]; exact ho) ⟨gs.set i ⟨rg,x.es ++ [⟨L.count,rk,re,rt,rb⟩],x.t,x.e + 1⟩,gt,ge,?_⟩
    rw [hadde hv h3,q3]
    exact {
     val:=by rw [h.val]; exact setE_set hii hxi q1 hix q2
     obj:=by rw [AS.set_objs_same,← hXG]; unfold ledC; rw [grpAV_set hii hxi q2]
     m1:=by rw [AS.set_maps,AS.setMap_same]; rw [← hXE]; exact congrArg (fun x=>some (MO.map x)) (kv_set (d:=⟨L.count,rk,re,rt,rb⟩) hii hxi q2)
     m2:=by rw [AS.set_maps,AS.setMap_ne _ h.ne.symm,AS.gain_maps]; exact hm2
     ne:=h.ne
     own:=by
      intro y hy
      have hs : ((s1.gain x.t (x.e + 1)).setMap b1 ((gs.map GEnt.kv).modify i fun y=>(y.1,AV.sl 5 (x.es.length + 1) (XE ++ [.v (.int .i64 L.count),.v (.int .i64 rk),.v (.int .i64 re),.v (.int .i64 rt),.v (.int .i64 rb)]) (.own x.t (x.e + 1))))).own = upd s1.own x.t (some (x.e + 1)):=rfl
      rcases mem_set_nodup h.nodup hii hxi hy with rfl | ⟨hy,hyt⟩
      ·exact ⟨by simp [AS.gain,AS.set,AS.setMap,AS.putM],w2⟩
      ·exact ⟨by simp [AS.gain,AS.set,AS.setMap,AS.putM,upd,hyt,(h.own y hy).1],(h.own y hy).2⟩
     nodup:=by rw [toks_set hii hxi]; exact h.nodup
     gown:=by
      intro _
      have hgs : gs≠[]:=fun e=>by rw [e] at hx; cases hx
      obtain ⟨a1,a2,a3⟩:=h.gown hgs
      have e : gt≠x.t:=fun e=>a3 (e ▸ List.mem_map_of_mem hx)
      refine ⟨by simp [AS.gain,AS.set,AS.setMap,AS.putM,upd,e,a1],a2,?_⟩
      rw [toks_set hii hxi]
      exact a3
     p0:=h.p0
     b10:=h.b10
     b20:=h.b20
     le:=AS.le_set (AS.le_setMap (AS.le_gain h.le w2 _) h.b10 _) h.p0 _ }
 ·refine wS fun K hK=>?_
  simp only [↓DN,Qa,Qb,Qc,Qd,Qe,Qf,Qg,Qh,reduceCtorEq,↓reduceIte,Na,Nb,Nc,Nk,Nf,Ng,Nh,Za,Zb,Zc,TT,int_bne_true hv]
  refine hK _ _ ?_;clear hK K
  refine wC fun X Y hX hY=>?_
  simp only [UP,DF,Nc,↓reduceIte,DB]
  refine hX ?_;clear hX hY X Y
  refine wS fun K hK=>?_
  simp only [↓DN,Qa,Qb,Qc,Qd,Qe,Qf,Qg,Qh,reduceCtorEq,↓reduceIte,Na,Nb,Nc,Nk,Nf,Ng,Nh,Za,Zb,Zc,TT]
  refine hK _ _ ?_;clear hK K
  refine awp_ret ?_
  try simp only [thenQ,blockQ]
  simp only [retQ,AEnds,aresL,ares,List.toList_toArray,↓upd_same]; try simp only [UP,DF,Nc,↓reduceIte,DT]
  rw [hadd0 hv]
  exact ⟨_,_,AV.weak.refl _,AS.le.refl _,rfl,gs,gt,ge,h⟩
end Go.Proofs.Ytfbbckndpkmfcaa
namespace Go.Proofs.Ytfbbckndpkmfcaa
open Go Go.AM Go.Proofs
variable {Γ : Nat→List AV}
theorem eye_succM (i : Nat) (h : i < 2 ^ 62) : iadd .i64 (i : Int) 1 = ((i + 1 : Nat) : Int):=by
 rw [iadd_i64 (by omega)]
 rfl
theorem take_map {α : Type} (f : α→AV) {l : List α} {i : Nat} (h : i < l.length) : List.take 1 (List.drop i (l.map f)) = [f l[i]]:=by
 rw [List.drop_eq_getElem_cons (by simpa using h),List.getElem_map]
 rfl
theorem tidyL {P : Program} {f : FuncId} {args : List AV} {s : AS} {Q : AV→Prop} (h : ACalls P Γ f args s (fun r s'=>Q r∧s.le s')) : ACalls P Γ f args s (fun r s'=>Q r∧s' = s) :=
 ACalls.forget h fun r s' ⟨h1,h2⟩=>⟨s,h2,h1,rfl⟩
def entsV (l : List EntV) : AV:=.sl 5 l.length (rowC EntV.cells l) .any
theorem cloneEnt_calls (l : List EntV) (hn : l≠[]) (hl : l.length≤2 ^ 40) (s : AS) : ACalls Try.prog Γ 46 [entsV l] s (fun r s'=>r = entsV l∧s' = s):=by
 refine tidyL (Q:=fun r=>r = entsV l) ?_
 refine acalls_body Try.func46 rfl Try.ntmps46 Try.results46 (by simp) ?_
 have h0 : l.length≠0:=fun e=>hn (List.length_eq_zero_iff.1 e)
 have hone : (rowC EntV.cells l).all AV.one = true:=by
  rw [List.all_eq_true]
  intro c hc
  simp only [rowC,List.mem_flatten,List.mem_map] at hc
  obtain ⟨_,⟨n,-,rfl⟩,hc⟩:=hc
  simp only [EntV.cells,List.mem_cons,List.not_mem_nil,or_false] at hc
  rcases hc with rfl | rfl | rfl | rfl | rfl <;> rfl
 unfold entsV
 generalize rowC EntV.cells l = X at *
 refine wS fun K hK=>?_
 simp only [↓DN,Qa,Qb,Qc,Qd,Qe,Qf,Qg,Qh,reduceCtorEq,↓reduceIte,Na,Nb,Nc,Nk,Nf,Ng,Nh,Za,Zb,Zc,TT]
 refine hK _ _ ?_;clear hK K
 refine wK fun K hK=>?_
 refine wS fun K hK=>?_
 simp only [↓DN,Qa,Qb,Qc,Qd,Qe,Qf,Qg,Qh,reduceCtorEq,↓reduceIte,Na,Nb,Nc,Nk,Nf,Ng,Nh,Za,Zb,Zc,TT,h0]
 refine hK _ _ ?_;clear hK K
 refine wC fun X Y hX hY=>?_
 simp only [UP,DF,Nc,↓reduceIte,DB]
 refine hY ?_;clear hX hY X Y
 refine awp_skip ?_
 refine hK _ _ ?_;clear hK K
 refine wS fun K hK=>?_
 simp only [↓DN,Qa,Qb,Qc,Qd,Qe,Qf,Qg,Qh,reduceCtorEq,↓reduceIte,Na,Nb,Nc,Nk,Nf,Ng,Nh,Za,Zb,Zc,TT,h0,hone]
 refine ⟨by omega,by omega,fun t ht=>?_⟩
 refine hK _ _ ?_;clear hK K
 refine awp_ret ?_
 try simp only [thenQ,blockQ]
 simp only [retQ,AEnds,aresL,ares,List.toList_toArray,↓upd_same]; try simp only [UP,DF,Nc,↓reduceIte,DT]
 exact ⟨_,_,AV.weak_any,AS.le.refl _,rfl,AS.le_gain (AS.le.refl s) ht 0⟩
theorem cloneEntNil_calls (s : AS) : ACalls Try.prog Γ 46 [.v (.slice none 0 0)] s (fun r s'=>r = .v (.slice none 0 0)∧s' = s):=by
 refine acalls_body Try.func46 rfl Try.ntmps46 Try.results46 (by simp) ?_
 refine wS fun K hK=>?_
 simp only [↓DN,Qa,Qb,Qc,Qd,Qe,Qf,Qg,Qh,reduceCtorEq,↓reduceIte,Na,Nb,Nc,Nk,Nf,Ng,Nh,Za,Zb,Zc,TT]
 refine hK _ _ ?_;clear hK K
 refine wK fun K hK=>?_
 refine wS fun K hK=>?_
 simp only [↓DN,Qa,Qb,Qc,Qd,Qe,Qf,Qg,Qh,reduceCtorEq,↓reduceIte,Na,Nb,Nc,Nk,Nf,Ng,Nh,Za,Zb,Zc,TT]
 refine hK _ _ ?_;clear hK K
 refine wC fun X Y hX hY=>?_
 simp only [UP,DF,Nc,↓reduceIte,DB]
 refine hX ?_;clear hX hY X Y
 refine wS fun K hK=>?_
 simp only [↓DN,Qa,Qb,Qc,Qd,Qe,Qf,Qg,Qh,reduceCtorEq,↓reduceIte,Na,Nb,Nc,Nk,Nf,Ng,Nh,Za,Zb,Zc,TT]
 refine hK _ _ ?_;clear hK K
 refine awp_ret ?_
 try simp only [thenQ,blockQ]
 simp only [retQ,AEnds,aresL,ares,List.toList_toArray,↓upd_same]; try simp only [UP,DF,Nc,↓reduceIte,DT]
 exact ⟨_,_,AV.weak.refl _,AS.le.refl _,rfl,rfl⟩
theorem ledEntries_calls {s0 s : AS} {p : Nat} {L : LedV} {gs : List GEnt} {gt ge b1 b2 : Nat} (h : LedS s0 s p L gs gt ge b1 b2) (hi : L.inv) (g : List UInt8) :
  ACalls Try.prog Γ 34 [.ptr p 0,bytesV g .any] s (fun r s'=>r = entsV (entsOf g L.gs)∧s' = s):=by
 refine acalls_body Try.func34 rfl Try.ntmps34 Try.results34 (by simp) ?_
 have ho:=h.obj
 have hm:=h.m1
 have hf:=find_grp g gs
 have hz : azero Try.prog 58 = some (.slice none 0 0):=by kernel_rfl
 have hk : keyPlain .string (.string ⟨g.toArray⟩) = true:=rfl
 have hcase:=lookE (gs:=gs) g
 rw [← h.val] at hcase
 unfold ledC at ho
 unfold bytesV
 rcases hcase with ⟨h1,h2,_⟩ | ⟨x,hx,h1,h2,h3,_⟩
 ·rw [h1] at hf
  rw [h2]
  refine wS fun K hK=>?_
  simp only [↓DN,Qa,Qb,Qc,Qd,Qe,Qf,Qg,Qh,reduceCtorEq,↓reduceIte,Na,Nb,Nc,Nk,Nf,Ng,Nh,Za,Zb,Zc,TT]
  refine hK _ _ ?_;clear hK K
  refine awp_drw_seq T.mixed [3,6,7] (by kernel_rfl) ?_
  intro K hK
  simp only [↓DM,pval,DX,Nz,↓DN,Qa,Qb,Qc,Qd,Qe,Qf,Qg,Qh,reduceCtorEq,↓reduceIte,Na,Nb,Nc,Nk,Nf,Ng,Nh,Za,Zb,Zc,TT,ho,amOf,avOf,hm,Try.underlying49,Try.underlying9,hz,hk,hf]
  refine acallk (cloneEntNil_calls _) ?_
  rintro r s1 ⟨rfl,rfl⟩
  simp only [↓DM,pval,DX,Nz,↓DN,Qa,Qb,Qc,Qd,Qe,Qf,Qg,Qh,reduceCtorEq,↓reduceIte,Na,Nb,Nc,Nk,Nf,Ng,Nh,Za,Zb,Zc,TT]
  refine hK _ _ ?_;clear hK K
  refine awp_ret ?_
  try simp only [thenQ,blockQ]
  simp only [retQ,AEnds,aresL,ares,List.toList_toArray,↓upd_same]; try simp only [UP,DF,Nc,↓reduceIte,DT]
  exact ⟨_,_,AV.weak_nil,AS.le.refl _,rfl,rfl⟩
 ·obtain ⟨hne,hl40⟩:=hi.gs h.val x hx
  rw [h1] at hf
  simp only [Option.map_some,GEnt.av] at hf
  rw [h3]
  have hcl:=fun s=>ACalls.weaks (.cons (AV.weak_any (sp:=.own x.t x.e)) .nil) (cloneEnt_calls (Γ:=Γ) x.es hne hl40 s)
  unfold entsV at *
  generalize rowC EntV.cells x.es = X at *
  refine wS fun K hK=>?_
  simp only [↓DN,Qa,Qb,Qc,Qd,Qe,Qf,Qg,Qh,reduceCtorEq,↓reduceIte,Na,Nb,Nc,Nk,Nf,Ng,Nh,Za,Zb,Zc,TT]
  refine hK _ _ ?_;clear hK K
  refine awp_drw_seq T.mixed [3,6,7] (by kernel_rfl) ?_
  intro K hK
  simp only [↓DM,pval,DX,Nz,↓DN,Qa,Qb,Qc,Qd,Qe,Qf,Qg,Qh,reduceCtorEq,↓reduceIte,Na,Nb,Nc,Nk,Nf,Ng,Nh,Za,Zb,Zc,TT,ho,amOf,avOf,hm,Try.underlying49,Try.underlying9,hz,hk,hf]
  refine acallk (hcl _) ?_
  rintro r s1 ⟨rfl,rfl⟩
  simp only [↓DM,pval,DX,Nz,↓DN,Qa,Qb,Qc,Qd,Qe,Qf,Qg,Qh,reduceCtorEq,↓reduceIte,Na,Nb,Nc,Nk,Nf,Ng,Nh,Za,Zb,Zc,TT]
  refine hK _ _ ?_;clear hK K
  refine awp_ret ?_
  try simp only [thenQ,blockQ]
  simp only [retQ,AEnds,aresL,ares,List.toList_toArray,↓upd_same]; try simp only [UP,DF,Nc,↓reduceIte,DT]
  exact ⟨_,_,AV.weak.refl _,AS.le.refl _,rfl,rfl⟩
def grpC (g : List UInt8) : AV:=.sl 1 g.length (g.map byteV) .no
theorem grps_weak (l : List (List UInt8)) : AVs.weak (l.map grpC) (l.map fun g=>bytesV g .any):=by
 induction l with
 | nil=>exact .refl _
 | cons g l ih=>exact .cons AV.weak_any ih
def grpsV (l : List (List UInt8)) : AV:=.sl 1 l.length (l.map fun g=>bytesV g .any) .any
theorem ledGroups_calls {s0 s : AS} {p : Nat} {L : LedV} {gs : List GEnt} {gt ge b1 b2 : Nat} (h : LedS s0 s p L gs gt ge b1 b2) (hg : gs.length≤2 ^ 40) :
  ACalls Try.prog Γ 29 [.ptr p 0] s (fun r s'=>r = grpsV (L.gs.map (·.1))∧s' = s):=by
 refine tidyL (Q:=fun r=>r = grpsV (L.gs.map (·.1))) ?_
 refine acalls_body Try.func29 rfl Try.ntmps29 Try.results29 (by simp) ?_
 have ho:=h.obj
 unfold ledC at ho
 have hL : L.gs.map (·.1) = gs.map (·.g):=by rw [h.val,List.map_map]; rfl
 rw [hL]
 obtain ⟨N,hN⟩ : ∃ N,N = gs.map (·.g):=⟨_,rfl⟩
 have hNl : N.length = gs.length:=by rw [hN,List.length_map]
 rw [← hN]
 by_cases hgs : gs = []
 ·have hgv : grpAV gs gt ge = nilS:=if_pos hgs
  have hN0 : N = []:=by rw [hN,hgs]; rfl
  rw [hgv] at ho
  unfold nilS at ho
  rw [hN0]
  refine wS fun K hK=>?_
  simp only [↓DN,Qa,Qb,Qc,Qd,Qe,Qf,Qg,Qh,reduceCtorEq,↓reduceIte,Na,Nb,Nc,Nk,Nf,Ng,Nh,Za,Zb,Zc,TT]
  refine hK _ _ ?_;clear hK K
  refine wS fun K hK=>?_
  simp only [↓DN,Qa,Qb,Qc,Qd,Qe,Qf,Qg,Qh,reduceCtorEq,↓reduceIte,Na,Nb,Nc,Nk,Nf,Ng,Nh,Za,Zb,Zc,TT]
  refine hK _ _ ?_;clear hK K
  refine wK fun K hK=>?_
  refine wS fun K hK=>?_
  simp only [↓DN,Qa,Qb,Qc,Qd,Qe,Qf,Qg,Qh,reduceCtorEq,↓reduceIte,Na,Nb,Nc,Nk,Nf,Ng,Nh,Za,Zb,Zc,TT,ho]
  refine hK _ _ ?_;clear hK K
  refine awp_block ?_
  refine awp_loop (fun E s'=>E 11 = .v (.int .i64 0)∧E 10 = .v (.int .i64 0)∧E 3 = .v (.slice none 0 0)∧s' = s) (fun _ _=>0) ?_ ?_
  ·exact ⟨by simp only [upd,Nc,↓reduceIte],by simp only [upd,Nc,↓reduceIte]; rfl,by simp only [upd,Nc,↓reduceIte],rfl⟩
  ·rintro E1 s1 ⟨g11,g10,g3,rfl⟩ -
   refine wS fun K hK=>?_
   simp only [↓DN,Qa,Qb,Qc,Qd,Qe,Qf,Qg,Qh,reduceCtorEq,↓reduceIte,Na,Nb,Nc,Nk,Nf,Ng,Nh,Za,Zb,Zc,TT,g11,g10,show decide ((0 : Int) < 0) = false from rfl]
   refine hK _ _ ?_;clear hK K
   refine wK fun K2 hK2=>?_
   refine wC fun X Y hX hY=>?_
   simp only [UP,DF,Nc,↓reduceIte,DB]
   refine hY ?_;clear hX hY X Y
   refine awp_exit ?_
   simp only [thenQ,blockQ,if_true]
   refine hK _ _ ?_;clear hK hK2 K2 K
   refine wS fun K hK=>?_
   simp only [↓DN,Qa,Qb,Qc,Qd,Qe,Qf,Qg,Qh,reduceCtorEq,↓reduceIte,Na,Nb,Nc,Nk,Nf,Ng,Nh,Za,Zb,Zc,TT,g3]
   refine hK _ _ ?_;clear hK K
   refine awp_ret ?_
   try simp only [thenQ,blockQ]
   simp only [retQ,AEnds,aresL,ares,List.toList_toArray,↓upd_same]; try simp only [UP,DF,Nc,↓reduceIte,DT]
   exact ⟨_,_,AV.weak_nil,AS.le.refl _,rfl,AS.le.refl _⟩
 ·obtain ⟨w1,w2,w3⟩:=h.gown hgs
  have hgv : grpAV gs gt ge = .sl 1 gs.length (gs.map fun x=>strC x.g) (.own gt ge):=if_neg hgs
  have hX : (gs.map fun x : GEnt=>strC x.g) = N.map strC:=by rw [hN,List.map_map]; rfl
  rw [hgv,hX,← hNl] at ho
  have hat : ∀ i,(hi : i < N.length)→List.take 1 (List.drop i (N.map strC)) = [.v (.string ⟨N[i].toArray⟩)]:=by
   intro i hi
   exact take_map strC hi
  have htk : ∀ i,(hi : i < N.length)→(N.take (i + 1)).map grpC = (N.take i).map grpC ++ [.sl 1 N[i].length (N[i].map byteV) .no]:=by
   intro i hi
   rw [List.take_succ_eq_append_getElem hi,List.map_append]
   rfl
  generalize hXX : N.map strC = X at *
  refine wS fun K hK=>?_
  simp only [↓DN,Qa,Qb,Qc,Qd,Qe,Qf,Qg,Qh,reduceCtorEq,↓reduceIte,Na,Nb,Nc,Nk,Nf,Ng,Nh,Za,Zb,Zc,TT]
  refine hK _ _ ?_;clear hK K
  refine wS fun K hK=>?_
  simp only [↓DN,Qa,Qb,Qc,Qd,Qe,Qf,Qg,Qh,reduceCtorEq,↓reduceIte,Na,Nb,Nc,Nk,Nf,Ng,Nh,Za,Zb,Zc,TT]
  refine hK _ _ ?_;clear hK K
  refine wK fun K hK=>?_
  refine wS fun K hK=>?_
  simp only [↓DN,Qa,Qb,Qc,Qd,Qe,Qf,Qg,Qh,reduceCtorEq,↓reduceIte,Na,Nb,Nc,Nk,Nf,Ng,Nh,Za,Zb,Zc,TT,ho]
  refine hK _ _ ?_;clear hK K
  refine awp_block ?_
  refine awp_loop (fun E s'=>∃ (i : Nat) (x : AV),i≤N.length∧E 11 = .v (.int .i64 i)∧E 10 = .v (.int .i64 N.length)∧E 9 = .sl 1 N.length X (.own gt ge)∧E 3 = x∧RBuf 1 s s' x i ((N.take i).map grpC)∧s.le s')
   (fun E _=>match E 11 with | .v (.int _ i)=>N.length - i.toNat | _=>0) ?_ ?_
  ·exact ⟨0,nilS,Nat.zero_le _,by simp only [upd,Nc,↓reduceIte]; rfl,by simp only [upd,Nc,↓reduceIte],by simp only [upd,Nc,↓reduceIte],by simp only [upd,Nc,↓reduceIte]; rfl,RBuf.nil _ _ _,AS.le.refl _⟩
  ·rintro E1 s1 ⟨i,x,hi,g11,g10,g9,g3,hx,hle⟩ -
   by_cases hi' : i < N.length
   ·refine wS fun K hK=>?_
    simp only [↓DN,Qa,Qb,Qc,Qd,Qe,Qf,Qg,Qh,reduceCtorEq,↓reduceIte,Na,Nb,Nc,Nk,Nf,Ng,Nh,Za,Zb,Zc,TT,g11,g10,eye_lt_nat,decide_eq_true hi']
    refine hK _ _ ?_;clear hK K
    refine wK fun K2 hK2=>?_
    refine wC fun X Y hX hY=>?_
    simp only [UP,DF,Nc,↓reduceIte,DB]
    refine hX ?_;clear hX hY X Y
    refine awp_skip ?_
    refine hK2 _ _ ?_;clear hK2 K2
    refine wK fun K3 hK3=>?_
    refine awp_block ?_
    have hge : (0 : Int)≤((i : Nat) : Int):=by omega
    have hat':=hat i hi'
    have htk':=htk i hi'
    generalize N[i] = g at *
    refine wS fun K hK=>?_
    simp only [↓DN,Qa,Qb,Qc,Qd,Qe,Qf,Qg,Qh,reduceCtorEq,↓reduceIte,Na,Nb,Nc,Nk,Nf,Ng,Nh,Za,Zb,Zc,TT,g9,g11,hge,eye_lt_nat,hi',hat']
    refine hK _ _ ?_;clear hK K
    have hnx : ∀ (E : Env) (s2 : AS) (x : AV),E 11 = .v (.int .i64 i)→E 10 = .v (.int .i64 N.length)→E 9 = .sl 1 N.length X (.own gt ge)→E 3 = x→RBuf 1 s s2 x (i + 1) ((N.take (i + 1)).map grpC)→s.le s2→K3 E s2:=by
     intro E s2 x k11 g10 g9 g3 hx hle
     refine hK3 _ _ ?_;clear hK3 K3
     refine wE fun K hK=>?_
     simp only [↓DN,Qa,Qb,Qc,Qd,Qe,Qf,Qg,Qh,reduceCtorEq,↓reduceIte,Na,Nb,Nc,Nk,Nf,Ng,Nh,Za,Zb,Zc,TT,k11,eye_succM i (by omega)]
     refine hK _ _ ?_;clear hK K
     refine ⟨⟨i + 1,x,hi',by simp only [upd,Nc,↓reduceIte],by simp only [upd,g10,Nc,↓reduceIte],by simp only [upd,g9,Nc,↓reduceIte],by simp only [upd,g3,Nc,↓reduceIte],hx,hle⟩,?_⟩
     simp only [g11,upd,↓reduceIte]
     omega
    clear hK3
    rcases hx with ⟨rfl,hi0,hL0⟩ | ⟨tk,ek,rfl,htk1,htk0⟩
    ·refine wE fun K hK=>?_
     simp only [↓DN,Qa,Qb,Qc,Qd,Qe,Qf,Qg,Qh,reduceCtorEq,↓reduceIte,Na,Nb,Nc,Nk,Nf,Ng,Nh,Za,Zb,Zc,TT,g3,nilS,List.replicate_succ,List.replicate_zero]
     intro tk htk1
     have hk0:=own_none_le hle htk1
     refine hK _ _ (hnx _ _ (.sl 1 1 [.sl 1 g.length (g.map byteV) .no] (.own tk 0)) (by simp only [upd,g11,Nc,↓reduceIte]) (by simp only [upd,g10,Nc,↓reduceIte]) (by simp only [upd,g9,Nc,↓reduceIte]) (by simp only [upd,Nc,↓reduceIte]) ?_ (AS.le_gain hle hk0 0))
     refine .inr ⟨tk,0,?_,by simp [AS.gain],hk0⟩
     rw [htk',hL0]
     subst hi0
     rfl
    ·refine wE fun K hK=>?_
     simp only [↓DN,Qa,Qb,Qc,Qd,Qe,Qf,Qg,Qh,reduceCtorEq,↓reduceIte,Na,Nb,Nc,Nk,Nf,Ng,Nh,Za,Zb,Zc,TT,g3,htk1,List.replicate_succ,List.replicate_zero]
     refine ⟨by omega,by omega,hK _ _ (hnx _ _ (.sl 1 (i + 1) ((N.take i).map grpC ++ [.sl 1 g.length (g.map byteV) .no]) (.own tk (ek + 1))) (by simp only [upd,g11,Nc,↓reduceIte]) (by simp only [upd,g10,Nc,↓reduceIte]) (by simp only [upd,g9,Nc,↓reduceIte]) (by simp only [upd,Nc,↓reduceIte]) ?_ (AS.le_gain hle htk0 (ek + 1)))⟩
     exact .inr ⟨tk,ek + 1,by rw [htk'],by simp [AS.gain],htk0⟩
   ·refine wS fun K hK=>?_
    simp only [↓DN,Qa,Qb,Qc,Qd,Qe,Qf,Qg,Qh,reduceCtorEq,↓reduceIte,Na,Nb,Nc,Nk,Nf,Ng,Nh,Za,Zb,Zc,TT,g11,g10,eye_lt_nat,decide_eq_false hi']
    refine hK _ _ ?_;clear hK K
    refine wK fun K2 hK2=>?_
    refine wC fun X Y hX hY=>?_
    simp only [UP,DF,Nc,↓reduceIte,DB]
    refine hY ?_;clear hX hY X Y
    refine awp_exit ?_
    simp only [thenQ,blockQ,if_true]
    refine hK _ _ ?_;clear hK hK2 K2 K
    obtain rfl : i = N.length:=by omega
    rw [List.take_length] at hx
    refine wS fun K hK=>?_
    simp only [↓DN,Qa,Qb,Qc,Qd,Qe,Qf,Qg,Qh,reduceCtorEq,↓reduceIte,Na,Nb,Nc,Nk,Nf,Ng,Nh,Za,Zb,Zc,TT,g3]
    refine hK _ _ ?_;clear hK K
    refine awp_ret ?_
    try simp only [thenQ,blockQ]
    simp only [retQ,AEnds,aresL,ares,List.toList_toArray,↓upd_same]; try simp only [UP,DF,Nc,↓reduceIte,DT]
    exact ⟨_,_,hx.weak.trans (AV.weak_slc (grps_weak N)),AS.le.refl _,rfl,hle⟩
end Go.Proofs.Ytfbbckndpkmfcaa
namespace Go.Proofs.Ytfbbckndpkmfcaa
open Go Go.AM Go.Proofs
variable {Γ : Nat→List AV}
theorem great12_calls (R : Rec) (s : AS) : ACalls Try.prog Γ 20 [.agg R.cells] s (fun r s'=>∃ n : Int,r = .v (.int .i64 n)∧s' = s):=by
 refine acalls_body Try.func20 rfl Try.ntmps20 Try.results20 (by simp) ?_
 unfold Rec.cells
 obtain ⟨k,g,e,t,u,y,tr,sc,wr⟩:=R
 refine awp_reg_frz 1 (by simp [dsts]) ?_
 intro K hK
 simp only [↓DM,pval,DX,Nz,↓DN,Qa,Qb,Qc,Qd,Qe,Qf,Qg,Qh,reduceCtorEq,↓reduceIte,Na,Nb,Nc,Nk,Nf,Ng,Nh,Za,Zb,Zc,TT]
 intro o ho
 refine hK _ _ o _ (by simp only [upd,Nc,↓reduceIte]) ho ?_
 clear hK K
 refine wS fun K hK=>?_
 simp only [↓DN,Qa,Qb,Qc,Qd,Qe,Qf,Qg,Qh,reduceCtorEq,↓reduceIte,Na,Nb,Nc,Nk,Nf,Ng,Nh,Za,Zb,Zc,TT]
 refine hK _ _ ?_;clear hK K
 refine awp_ret ?_
 simp only [retQ,AEnds,aresL,ares,List.toList_toArray,↓upd_same]; try simp only [UP,DF,Nc,↓reduceIte,DT]
 exact ⟨_,_,AV.weak.refl _,AS.le.refl _,_,rfl,rfl⟩
end Go.Proofs.Ytfbbckndpkmfcaa
