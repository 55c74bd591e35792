/- Contracts of the program's functions, each walked once; the conditions stand in each theorem. -/
import Derived.Test.YtfbbckndpkmfcaaAMp6
import Derived.Test.YtfbbckndpkmfcaaW1
import Derived.Test.YtfbbckndpkmfcaaW2
import Derived.Test.YtfbbckndpkmfcaaAMp7
import Derived.Shelf.Spec.SlicesInsertGrow
import Derived.Test.YtfbbckndpkmfcaaAMp4
import Derived.Shelf.Slices.SearchI
import Derived.Shelf.Slices.Empties
import Derived.Sort.EveryDepth
import Derived.Shelf.Sort.AssemblyIn
import Derived.Lib.RowBridge
set_option linter.unusedSimpArgs false
set_option linter.unusedVariables false
open Nat renaming reduceLT → Na, reduceLeDiff → Nb, reduceEqDiff → Nc, reduceAdd → Nk, reduceMul → Nf, reducePow → Ng, reduceSub → Nh, reduceBEq → Nz
open Int renaming reduceLT → Za, reduceLE → Zb, reduceToNat → Zc
open Go.AM renaming ashift → Qa, aconv → Qb, aindexAddr → Qc, aindex → Qd, aslice → Qe, abuiltin → Qf, awp_reg_seq → wS, awp_reg_end → wE, awp_seq_k → wK, awp_cond_k → wC
open Go.AM.AV renaming cells → Qg, one → Qh
set_option maxRecDepth 100000
set_option maxHeartbeats 8000000
set_option autoImplicit false
namespace Go.Proofs.Ytfbbckndpkmfcaa
open Go Go.AM Go.Proofs
variable {Γ : Nat→List AV}
theorem ledAddErr_calls {s0 s : AS} {p : Nat} {L : LedV} {gs : List GEnt} {gt ge b1 b2 : Nat} (h : LedS s0 s p L gs gt ge b1 b2) (hi : L.inv) (r : Rec) (hv : checkV L r≠0) :
  ACalls Try.prog Γ 10 [.ptr p 0,.agg r.cells] s (fun v s'=>v = .v (.int .i64 (checkV L r))∧s' = s):=by
 refine acalls_body Try.func10 rfl Try.ntmps10 Try.results10 (by simp) ?_
 have hck:=ledCheck_calls (Γ:=Γ) h hi r
 generalize checkV L r = V at *
 obtain ⟨rk,rg,re,rt,rb,ry,rtr,rsc,rw'⟩:=r
 unfold Rec.cells at *
 simp only at *
 unfold bytesV at *
 refine awp_reg_frz 3 (by decide) ?_
 intro K hK
 simp only [↓DM,pval,DX,Nz,↓DN,Qa,Qb,Qc,Qd,Qe,Qf,Qg,Qh,reduceCtorEq,↓reduceIte,Na,Nb,Nc,Nk,Nf,Ng,Nh,Za,Zb,Zc,TT]
 intro o3 q3
 refine hK _ _ o3 _ (by simp only [upd,Nc,↓reduceIte]) q3 ?_
 clear hK K q3
 refine wK fun K hK=>?_
 refine wS fun K hK=>?_
 simp only [↓DN,Qa,Qb,Qc,Qd,Qe,Qf,Qg,Qh,reduceCtorEq,↓reduceIte,Na,Nb,Nc,Nk,Nf,Ng,Nh,Za,Zb,Zc,TT]
 refine acallk hck ?_
 rintro r s1 ⟨rfl,rfl⟩
 simp only [↓DM,pval,DX,Nz,↓DN,Qa,Qb,Qc,Qd,Qe,Qf,Qg,Qh,reduceCtorEq,↓reduceIte,Na,Nb,Nc,Nk,Nf,Ng,Nh,Za,Zb,Zc,TT]
 refine hK _ _ ?_;clear hK K
 refine wS fun K hK=>?_
 simp only [↓DN,Qa,Qb,Qc,Qd,Qe,Qf,Qg,Qh,reduceCtorEq,↓reduceIte,Na,Nb,Nc,Nk,Nf,Ng,Nh,Za,Zb,Zc,TT,int_bne_true hv]
 refine hK _ _ ?_;clear hK K
 refine wC fun X Y hX hY=>?_
 simp only [UP,DF,Nc,↓reduceIte,DB]
 refine hX ?_;clear hX hY X Y
 refine wS fun K hK=>?_
 simp only [↓DN,Qa,Qb,Qc,Qd,Qe,Qf,Qg,Qh,reduceCtorEq,↓reduceIte,Na,Nb,Nc,Nk,Nf,Ng,Nh,Za,Zb,Zc,TT]
 refine hK _ _ ?_;clear hK K
 refine awp_ret ?_
 try simp only [thenQ,blockQ]
 simp only [retQ,AEnds,aresL,ares,List.toList_toArray,↓upd_same]; try simp only [UP,DF,Nc,↓reduceIte,DT]
 exact ⟨_,_,AV.weak.refl _,AS.le.refl _,rfl,rfl⟩
def r28 : Rec:=⟨2,[103],0,0,0,[],List.replicate 32 0,List.replicate 32 0,List.replicate 48 0⟩
theorem r28_check : checkV LedV.new r28 = 41:=by decide +kernel
theorem new_inv : LedV.new.inv:=fun q hq=>by cases hq
theorem rep1 (x : AV) : List.replicate 1 x = [x]:=rfl
theorem awake28_calls (s : AS) : ACalls Try.prog Γ 5 [] s (fun r s'=>r = .v (.bool true)∧s' = s):=by
 refine tidyL (Q:=fun r=>r = .v (.bool true)) ?_
 refine acalls_body Try.func5 rfl Try.ntmps5 Try.results5 (by simp) ?_
 have hc : r28.cells = [.v (.int .i64 2),.sl 1 1 [.v (.int .u8 103)] .any,.v (.int .i64 0),.v (.int .i64 0),.v (.int .i64 0),.sl 1 0 [] .any,.sl 1 32 (List.replicate 32 (.v (.int .u8 0))) .any,.sl 1 32 (List.replicate 32 (.v (.int .u8 0))) .any,.sl 1 48 (List.replicate 48 (.v (.int .u8 0))) .any]:=by
  simp only [Rec.cells,r28,bytesV,List.length_replicate,List.map_replicate,List.length_cons,List.length_nil,List.map_cons,List.map_nil]
  rfl
 refine wS fun K hK=>?_
 simp only [↓DN,Qa,Qb,Qc,Qd,Qe,Qf,Qg,Qh,reduceCtorEq,↓reduceIte,Na,Nb,Nc,Nk,Nf,Ng,Nh,Za,Zb,Zc,TT]
 refine hK _ _ ?_;clear hK K
 refine wS fun K hK=>?_
 simp only [↓DN,Qa,Qb,Qc,Qd,Qe,Qf,Qg,Qh,reduceCtorEq,↓reduceIte,Na,Nb,Nc,Nk,Nf,Ng,Nh,Za,Zb,Zc,TT]
 refine acallk (ledNew_calls s) ?_
 rintro r s1 ⟨p,b1,b2,rfl,hL⟩
 have hadd:=ledAddErr_calls (Γ:=Γ) hL new_inv r28 (by rw [r28_check]; decide)
 rw [r28_check,hc] at hadd
 have hcnt:=ledCount_calls (Γ:=Γ) hL
 have e0 : LedV.new.count = 0:=rfl
 rw [e0] at hcnt
 have hle:=hL.le
 generalize hZ1 : List.replicate 32 (AV.v (.int .u8 0)) = Z1 at *
 generalize hZ2 : List.replicate 48 (AV.v (.int .u8 0)) = Z2 at *
 simp only [↓DM,pval,DX,Nz,↓DN,Qa,Qb,Qc,Qd,Qe,Qf,Qg,Qh,reduceCtorEq,↓reduceIte,Na,Nb,Nc,Nk,Nf,Ng,Nh,Za,Zb,Zc,TT]
 refine hK _ _ ?_;clear hK K
 refine awp_drf_seq T.mixed [10,15] [(6,32),(7,32),(8,48)] [] [] (by kernel_rfl) ?_
 intro K hK
 simp only [↓AXz_nil,↓AXz_cons,↓AGiv_call,glook_nil,glook_cons,glookN_nil,glookN_cons,noughtV,pval,DX,Nat.reduceBEq,List.toList_toArray,List.map_cons,List.map_nil,aeval,↓DN,Qa,Qb,Qc,Qd,Qe,Qf,Qg,Qh,reduceCtorEq,↓reduceIte,Na,Nb,Nc,Nk,Nf,Ng,Nh,Za,Zb,Zc,TT,gokB,rep1,hZ1,hZ2]
 refine acallk (ACalls.weaks (.cons (AV.weak.refl _) (.cons (AV.weak_agg (.cons (AV.weak.refl _) (.cons AV.weak_any (.cons (AV.weak.refl _) (.cons (AV.weak.refl _) (.cons (AV.weak.refl _) (.cons AV.weak_nil (.cons AV.weak_any (.cons AV.weak_any (.cons AV.weak_any .nil)))))))))) .nil)) hadd) ?_
 rintro r s2 ⟨rfl,rfl⟩
 simp only [↓AXq_nil,↓AXq_cons,pval,↓AXz_nil,↓AXz_cons,↓AGiv_call,glook_nil,glook_cons,glookN_nil,glookN_cons,noughtV,pval,DX,Nat.reduceBEq,List.toList_toArray,List.map_cons,List.map_nil,aeval,DX,Nat.reduceBEq,↓DN,Qa,Qb,Qc,Qd,Qe,Qf,Qg,Qh,reduceCtorEq,↓reduceIte,Na,Nb,Nc,Nk,Nf,Ng,Nh,Za,Zb,Zc,TT,gokB,show ((41 : Int) == 41) = true from rfl]
 refine acallk hcnt ?_
 rintro r s3 ⟨rfl,rfl⟩
 simp only [↓AXq_nil,↓AXq_cons,pval,↓AXz_nil,↓AXz_cons,↓AGiv_call,glook_nil,glook_cons,glookN_nil,glookN_cons,noughtV,pval,DX,Nat.reduceBEq,List.toList_toArray,List.map_cons,List.map_nil,aeval,DX,Nat.reduceBEq,↓DN,Qa,Qb,Qc,Qd,Qe,Qf,Qg,Qh,reduceCtorEq,↓reduceIte,Na,Nb,Nc,Nk,Nf,Ng,Nh,Za,Zb,Zc,TT,gokB,show ((0 : Int) == 0) = true from rfl]
 refine hK _ _ ?_;clear hK K
 refine awp_ret ?_
 try simp only [thenQ,blockQ]
 simp only [retQ,AEnds,aresL,ares,List.toList_toArray,↓upd_same]; try simp only [UP,DF,Nc,↓reduceIte,DT]
 exact ⟨_,_,AV.weak.refl _,AS.le.refl _,rfl,hle⟩
def recsV (l : List Rec) : AV:=.sl 9 l.length (rowC Rec.cells l) .any
theorem small28_calls (l : List Rec) (most : Int) (hm : 0≤most∧most≤2 ^ 40) (s : AS) :
  ACalls Try.prog Γ 6 [recsV l,.v (.int .i64 most)] s (fun r s'=>(∃ b,r = .v (.bool b)∧(b = true→(l.length : Int)≤most))∧s' = s):=by
 refine acalls_body Try.func6 rfl Try.ntmps6 Try.results6 (by simp) ?_
 have hrow:=fun i (h : i < l.length)=>row_at (c:=Rec.cells) (k:=9) (fun _=>rfl) h
 have hgr:=fun r s=>great12_calls (Γ:=Γ) r s
 unfold recsV
 generalize rowC Rec.cells l = X at *
 refine wS fun K hK=>?_
 simp only [↓DN,Qa,Qb,Qc,Qd,Qe,Qf,Qg,Qh,reduceCtorEq,↓reduceIte,Na,Nb,Nc,Nk,Nf,Ng,Nh,Za,Zb,Zc,TT]
 refine hK _ _ ?_;clear hK K
 refine wK fun K hK=>?_
 by_cases hl : most < (l.length : Int)
 ·refine wS fun K hK=>?_
  simp only [↓DN,Qa,Qb,Qc,Qd,Qe,Qf,Qg,Qh,reduceCtorEq,↓reduceIte,Na,Nb,Nc,Nk,Nf,Ng,Nh,Za,Zb,Zc,TT,decide_eq_true hl]
  refine hK _ _ ?_;clear hK K
  refine wC fun X Y hX hY=>?_
  simp only [UP,DF,Nc,↓reduceIte,DB]
  refine hX ?_;clear hX hY X Y
  refine wS fun K hK=>?_
  simp only [↓DN,Qa,Qb,Qc,Qd,Qe,Qf,Qg,Qh,reduceCtorEq,↓reduceIte,Na,Nb,Nc,Nk,Nf,Ng,Nh,Za,Zb,Zc,TT]
  refine hK _ _ ?_;clear hK K
  refine awp_ret ?_
  try simp only [thenQ,blockQ]
  simp only [retQ,AEnds,aresL,ares,List.toList_toArray,↓upd_same]; try simp only [UP,DF,Nc,↓reduceIte,DT]
  exact ⟨_,_,AV.weak.refl _,AS.le.refl _,⟨false,rfl,fun h=>by cases h⟩,rfl⟩
 ·refine wS fun K hK=>?_
  simp only [↓DN,Qa,Qb,Qc,Qd,Qe,Qf,Qg,Qh,reduceCtorEq,↓reduceIte,Na,Nb,Nc,Nk,Nf,Ng,Nh,Za,Zb,Zc,TT,decide_eq_false hl]
  refine hK _ _ ?_;clear hK K
  refine wC fun X Y hX hY=>?_
  simp only [UP,DF,Nc,↓reduceIte,DB]
  refine hY ?_;clear hX hY X Y
  refine awp_skip ?_
  refine hK _ _ ?_;clear hK K
  refine wK fun K hK=>?_
  refine wS fun K hK=>?_
  simp only [↓DN,Qa,Qb,Qc,Qd,Qe,Qf,Qg,Qh,reduceCtorEq,↓reduceIte,Na,Nb,Nc,Nk,Nf,Ng,Nh,Za,Zb,Zc,TT]
  refine hK _ _ ?_;clear hK K
  refine awp_block ?_
  refine awp_loop (fun E s'=>∃ i : Nat,i≤l.length∧E 5 = .v (.int .i64 i)∧E 0 = .sl 9 l.length X .any∧s' = s)
   (fun E _=>match E 5 with | .v (.int _ i)=>l.length - i.toNat | _=>0) ?_ ?_
  ·exact ⟨0,Nat.zero_le _,by simp only [upd,Nc,↓reduceIte]; rfl,by simp only [upd,initE,List.getD_cons_zero,List.getD_cons_succ,Nc,↓reduceIte],rfl⟩
  ·rintro E1 s1 ⟨i,hi,g5,g0,rfl⟩ -
   refine wK fun K2 hK2=>?_
   by_cases hi' : i < l.length
   ·refine wS fun K hK=>?_
    simp only [↓DN,Qa,Qb,Qc,Qd,Qe,Qf,Qg,Qh,reduceCtorEq,↓reduceIte,Na,Nb,Nc,Nk,Nf,Ng,Nh,Za,Zb,Zc,TT,g5,g0,eye_lt_nat,decide_eq_true hi']
    refine hK _ _ ?_;clear hK K
    refine wC fun X Y hX hY=>?_
    simp only [UP,DF,Nc,↓reduceIte,DB]
    refine hX ?_;clear hX hY X Y
    refine awp_skip ?_
    refine hK2 _ _ ?_;clear hK2 K2
    refine wK fun K3 hK3=>?_
    refine awp_block ?_
    have hge : (0 : Int)≤((i : Nat) : Int):=by omega
    have hat:=hrow i hi'
    have hg:=hgr l[i]
    generalize l[i] = r at *
    unfold Rec.cells bytesV at hat hg
    refine wS fun K hK=>?_
    simp only [↓DN,Qa,Qb,Qc,Qd,Qe,Qf,Qg,Qh,reduceCtorEq,↓reduceIte,Na,Nb,Nc,Nk,Nf,Ng,Nh,Za,Zb,Zc,TT,g5,g0,eye_lt_nat,hi',hge,hat]
    refine acallk (hg _) ?_
    rintro v s2 ⟨n,rfl,rfl⟩
    by_cases hn : 400 < n
    ·simp only [↓DM,pval,DX,Nz,↓DN,Qa,Qb,Qc,Qd,Qe,Qf,Qg,Qh,reduceCtorEq,↓reduceIte,Na,Nb,Nc,Nk,Nf,Ng,Nh,Za,Zb,Zc,TT,decide_eq_true hn]
     refine hK _ _ ?_;clear hK K
     refine wC fun X Y hX hY=>?_
     simp only [UP,DF,Nc,↓reduceIte,DB]
     refine hX ?_;clear hX hY X Y
     refine wS fun K hK=>?_
     simp only [↓DN,Qa,Qb,Qc,Qd,Qe,Qf,Qg,Qh,reduceCtorEq,↓reduceIte,Na,Nb,Nc,Nk,Nf,Ng,Nh,Za,Zb,Zc,TT]
     refine hK _ _ ?_;clear hK K
     refine awp_ret ?_
     try simp only [thenQ,blockQ]
     simp only [retQ,AEnds,aresL,ares,List.toList_toArray,↓upd_same]; try simp only [UP,DF,Nc,↓reduceIte,DT]
     exact ⟨_,_,AV.weak.refl _,AS.le.refl _,⟨false,rfl,fun h=>by cases h⟩,rfl⟩
    ·simp only [↓DM,pval,DX,Nz,↓DN,Qa,Qb,Qc,Qd,Qe,Qf,Qg,Qh,reduceCtorEq,↓reduceIte,Na,Nb,Nc,Nk,Nf,Ng,Nh,Za,Zb,Zc,TT,decide_eq_false hn]
     refine hK _ _ ?_;clear hK K
     refine wC fun X Y hX hY=>?_
     simp only [UP,DF,Nc,↓reduceIte,DB]
     refine hY ?_;clear hX hY X Y
     refine awp_skip ?_
     refine hK3 _ _ ?_;clear hK3 K3
     refine wE fun K hK=>?_
     simp only [↓DN,Qa,Qb,Qc,Qd,Qe,Qf,Qg,Qh,reduceCtorEq,↓reduceIte,Na,Nb,Nc,Nk,Nf,Ng,Nh,Za,Zb,Zc,TT,g5,eye_succM i (by omega)]
     refine hK _ _ ?_;clear hK K
     refine ⟨⟨i + 1,hi',by simp only [upd,Nc,↓reduceIte],by simp only [upd,g0,Nc,↓reduceIte],rfl⟩,?_⟩
     simp only [g5,upd,↓reduceIte]
     omega
   ·refine wS fun K hK=>?_
    simp only [↓DN,Qa,Qb,Qc,Qd,Qe,Qf,Qg,Qh,reduceCtorEq,↓reduceIte,Na,Nb,Nc,Nk,Nf,Ng,Nh,Za,Zb,Zc,TT,g5,g0,eye_lt_nat,decide_eq_false hi']
    refine hK _ _ ?_;clear hK K
    refine wC fun X Y hX hY=>?_
    simp only [UP,DF,Nc,↓reduceIte,DB]
    refine hY ?_;clear hX hY X Y
    refine awp_exit ?_
    simp only [thenQ,blockQ,if_true]
    refine hK _ _ ?_;clear hK hK2 K2 K
    refine wS fun K hK=>?_
    simp only [↓DN,Qa,Qb,Qc,Qd,Qe,Qf,Qg,Qh,reduceCtorEq,↓reduceIte,Na,Nb,Nc,Nk,Nf,Ng,Nh,Za,Zb,Zc,TT]
    refine hK _ _ ?_;clear hK K
    refine awp_ret ?_
    try simp only [thenQ,blockQ]
    simp only [retQ,AEnds,aresL,ares,List.toList_toArray,↓upd_same]; try simp only [UP,DF,Nc,↓reduceIte,DT]
    exact ⟨_,_,AV.weak.refl _,AS.le.refl _,⟨true,rfl,fun _=>by omega⟩,rfl⟩
end Go.Proofs.Ytfbbckndpkmfcaa
namespace Go.AM
open Go Go.RowKit Go.Shelf Go.Proofs
variable {P : Program} {Γ : Nat→List AV} {G : Gh} {s : AS} {w : World} {N : Nat}
def intW (i : Int) : Value:=.int .i64 i
theorem VRels.ints {G : Gh} (l : List Int) : VRels G (l.map intC) (l.map intW):=by
  induction l with
  | nil=>simp [VRels]
  | cons i l ih=>simp only [List.map_cons,VRels]; exact ⟨intW i,_,rfl,by simp [intC,intW,VRel],ih⟩
theorem VRels.ints_eq {G : Gh} : ∀ {l : List Int} {vs : List Value},VRels G (l.map intC) vs→vs = l.map intW
  | [],vs,h=>by simpa [VRels] using h
  | i :: l,vs,h=>by
    simp only [List.map_cons,VRels] at h
    obtain ⟨u,us,rfl,h1,h2⟩:=h
    rw [VRels.ints_eq h2]
    simp only [intC,VRel] at h1
    rw [h1]
    rfl
end Go.AM
namespace Go.AM
open Go
theorem some_neO {s : AS} {p o : Nat} {cs : List AV} (h : s.objs p = some cs) (k : s.objs o = none) : p≠o:=by
  rintro rfl
  rw [h] at k
  cases k
structure Rd4 (s s1 : AS) (p o2 o3 o4 : Nat) (ce z cs ds : List AV) : Prop where
  rd : RdS s s1 p o2 o3 ce z cs
  obj : s1.objs o4 = some ds
  n4 : s.objs o4 = none
  p4 : p≠o4
  d2 : o2≠o4
  d3 : o3≠o4
theorem RdS.setNew {s s1 : AS} {p o2 o3 o4 : Nat} {ce z cs : List AV} (h : RdS s s1 p o2 o3 ce z cs) (h4 : s1.objs o4 = none) (ds : List AV) : Rd4 s (s1.set o4 ds) p o2 o3 o4 ce z cs ds:=by
  have hp : p≠o4:=by rintro rfl; rw [h.eye] at h4; cases h4
  have h2 : o2≠o4:=by rintro rfl; rw [h.res] at h4; cases h4
  have h3 : o3≠o4:=by rintro rfl; rw [h.var] at h4; cases h4
  have hn : (s.drop p).objs o4 = none:=by
    cases e : (s.drop p).objs o4 with
    | none=>rfl
    | some x=>have:=h.le.objs _ _ e; rw [h4] at this; cases this
  have hn' : s.objs o4 = none:=by simpa [AS.drop,upd,hp.symm] using hn
  refine ⟨⟨AS.le_set h.le hn _,?_,?_,?_,h.n2,h.n3,h.p2,h.p3,h.d⟩,AS.set_objs_same _ _ _,hn',hp,h2,h3⟩
  · rw [AS.set_objs_ne _ hp]; exact h.eye
  · rw [AS.set_objs_ne _ h2]; exact h.res
  · rw [AS.set_objs_ne _ h3]; exact h.var
theorem Rd4.gain {s s1 : AS} {p o2 o3 o4 : Nat} {ce z cs ds : List AV} (h : Rd4 s s1 p o2 o3 o4 ce z cs ds) {t : Nat} (ht : s.own t = none) (e : Nat) : Rd4 s (s1.gain t e) p o2 o3 o4 ce z cs ds :=
  ⟨h.rd.gain ht e,h.obj,h.n4,h.p4,h.d2,h.d3⟩
theorem own_none_le {a b : AS} (h : a.le b) {t : Nat} (k : b.own t = none) : a.own t = none:=by
  cases e : a.own t with
  | none=>rfl
  | some x=>rw [h.own t x e] at k; cases k
theorem RdS.fresh {s s1 : AS} {p o2 o3 o5 : Nat} {ce z cs : List AV} (h : RdS s s1 p o2 o3 ce z cs) (h5 : s1.objs o5 = none) (ds : List AV) : RdS s (s1.set o5 ds) p o2 o3 ce z cs:=(h.setNew h5 ds).rd
theorem Rd4.fresh {s s1 : AS} {p o2 o3 o4 o5 : Nat} {ce z cs ds : List AV} (h : Rd4 s s1 p o2 o3 o4 ce z cs ds) (h5 : s1.objs o5 = none) (es : List AV) : Rd4 s (s1.set o5 es) p o2 o3 o4 ce z cs ds :=
  ⟨h.rd.fresh h5 es,by rw [AS.set_objs_ne _ (some_neO h.obj h5)]; exact h.obj,h.n4,h.p4,h.d2,h.d3⟩
end Go.AM
namespace Go.AM
open Go
def lvT : List Nat:=[0,1,0,2,0,1,0,3,0,1,0,2,0,1,0,4,0,1,0,2,0,1,0,3,0,1,0,2,0,1,0,5,0,1,0,2,0,1,0,3,0,1,0,2,0,1,0,4,0,1,0,2,0,1,0,3,0,1,0,2,0,1,0]
def lv (n : Nat) : Nat:=lvT.getD n 0
def hf (n : Nat) : Nat:=2 ^ lv n / 2
def lo (n : Nat) : Nat:=(n - (2 ^ lv n - 1)) / 2
def hi (n : Nat) : Nat:=(n + (2 ^ lv n - 1)) / 2
def Fit (n : Nat) : Prop:=n = 1∨n = 2∨n = 4∨n = 8∨n = 16∨n = 32
instance (n : Nat) : Decidable (Fit n):=by unfold Fit; infer_instance
theorem Fit.le {n : Nat} (h : Fit n) : 1≤n∧n≤32:=by rcases h with h | h | h | h | h | h <;> omega
def fitI (x : Int) : Prop:=0≤x∧Fit x.toNat
instance (x : Int) : Decidable (fitI x):=by unfold fitI; infer_instance
def undI (x : Int) : Int × Int:=if 0≤x∧x < 63 then ((lo x.toNat : Int),(hi x.toNat : Int)) else (0,-1)
end Go.AM
namespace Go.AM
open Go
theorem eye_succM (i : Nat) (h : i < 9223372036854775807) : iadd .i64 (i : Int) 1 = ((i + 1 : Nat) : Int):=by
  rw [iadd_i64 (by omega)]; omega
end Go.AM
namespace Go.AM
open Go
def treeV (t : List NodeV) : AV:=.sl 5 t.length (rowC NodeV.cells t) .any
def TreeW (t : List NodeV) : Prop:=t.length≤2 ^ 61∧∀ n ∈ t,n.unm.length≤2 ^ 61∧n.key < 2 ^ 64
def nd (t : List NodeV) (i : Nat) : NodeV:=t.getD i NodeV.nought
theorem nd_get {t : List NodeV} {i : Nat} (h : i < t.length) : nd t i = t[i]:=by simp [nd,List.getD,h]
theorem TreeW.nd {t : List NodeV} (h : TreeW t) (i : Nat) : (nd t i).unm.length≤2 ^ 61∧(nd t i).key < 2 ^ 64:=by
  by_cases hi : i < t.length
  · rw [nd_get hi]; exact h.2 _ (List.getElem_mem hi)
  · have : Go.AM.nd t i = NodeV.nought:=by simp [Go.AM.nd,List.getD,show t.length≤i by omega]
    rw [this]
    exact ⟨by decide,by decide⟩
def lvs (t : List NodeV) : Nat:=if Fit ((t.length + 1) / 2)∧t.length = 2 * ((t.length + 1) / 2) - 1 then (t.length + 1) / 2 else 0
theorem lvs_zero_or {t : List NodeV} : lvs t = 0∨(Fit (lvs t)∧t.length = 2 * lvs t - 1):=by
  unfold lvs
  split
  · rename_i h; exact .inr h
  · exact .inl rfl
def memI (t : List NodeV) (i : Int) : Prop:=0≤i∧i < (lvs t : Int)∧(nd t (2 * i.toNat)).kind = 1
instance (t : List NodeV) (i : Int) : Decidable (memI t i):=by unfold memI; infer_instance
def memR (t : List NodeV) (i : Int) : Prop:=0≤i∧2 * i < (t.length : Int)∧(nd t (2 * i.toNat)).kind = 1
instance (t : List NodeV) (i : Int) : Decidable (memR t i):=by unfold memR; infer_instance
def cntN (P : Int→Prop) [DecidablePred P] (a : Nat) : Nat→Nat
  | 0=>0
  | k + 1=>cntN P a k + if P ((a + k : Nat) : Int) then 1 else 0
def hlf (t : List NodeV) : Nat:=(t.length + 1) / 2
def fitsT (t : List NodeV) (i : Nat) : Prop :=
  (nd t i).right∧((nd t i).kind = 0∨((nd t i).kind = 1↔i % 2 = 0))∧∀ u ∈ (nd t i).unm,(undI (i : Int)).1≤u∧u≤(undI (i : Int)).2∧memI t u
instance (t : List NodeV) (i : Nat) : Decidable (fitsT t i):=by unfold fitsT; infer_instance
def goodAt (t : List NodeV) (i : Nat) : Prop:=fitsT t i∧(i % 2 = 0→memI t ((i / 2 : Nat) : Int)→∀ j,j < hlf t→i / 2 < j→¬ (memI t (j : Int)∧(nd t (2 * j)).name = (nd t i).name))
def rightT (t : List NodeV) : Prop:=lvs t≠0∧(∀ i,i < t.length→goodAt t i)∧(lvs t = 1∨0 < cntN (memI t) (lvs t / 2) (lvs t - lvs t / 2))
instance (t : List NodeV) (i : Nat) : Decidable (goodAt t i):=by unfold goodAt; infer_instance
instance (t : List NodeV) : Decidable (rightT t):=by unfold rightT; infer_instance
end Go.AM
namespace Go.AM
open Go
structure ListedV where
  leaf : Int
  name : List UInt8
  deriving DecidableEq
def ListedV.cells (x : ListedV) : List AV:=[.v (.int .i64 x.leaf),bytesV x.name .any]
theorem rightT.hlf {t : List NodeV} (h : rightT t) : hlf t = lvs t:=by
  have h1:=(lvs_zero_or.resolve_left h.1)
  have:=h1.1.le
  unfold Go.AM.hlf
  omega
theorem rightT.len {t : List NodeV} (h : rightT t) : t.length = 2 * lvs t - 1∧Fit (lvs t):=by
  have h1:=(lvs_zero_or.resolve_left h.1)
  exact ⟨h1.2,h1.1⟩
theorem rightT.nodes {t : List NodeV} (h : rightT t) {n : NodeV} (hn : n ∈ t) : n.right:=by
  obtain ⟨i,hi,rfl⟩:=List.getElem_of_mem hn
  have:=(h.2.1 i hi).1.1
  rwa [nd_get hi] at this
theorem rightT.nd {t : List NodeV} (h : rightT t) (i : Nat) : (nd t i).right:=by
  by_cases hi : i < t.length
  · exact (h.2.1 i hi).1.1
  · have : Go.AM.nd t i = NodeV.nought:=by simp [Go.AM.nd,List.getD,show t.length≤i by omega]
    rw [this]; exact nought_right
end Go.AM
namespace Go.AM
open Go Go.RowKit
variable {P : Program} {Γ : Nat→List AV} {G : Gh} {s : AS} {w : World} {N : Nat}
def onm : AV→Option Nat
  | .osl o _ _ _ _=>some o
  | _=>none
def cellsX (p : NodeV × AV) : List AV:=[.v (.int .i64 p.1.kind),bytesV p.1.name .any,.v (.int .u64 p.1.key),bytesV p.1.parent .any,p.2]
theorem cellsX_len (p : NodeV × AV) : (cellsX p).length = 5:=rfl
theorem cells_len (n : NodeV) : n.cells.length = 5:=rfl
theorem OBuf.le {sz n : Nat} {x : AV} {cs : List AV} {s s' : AS} (h : OBuf sz s x n cs) (k : s.le s') : OBuf sz s' x n cs:=by
  rcases h with h | ⟨o,cap,rest,h1,h2,h3⟩
  · exact .inl h
  · exact .inr ⟨o,cap,rest,h1,k.objs _ _ h2,h3⟩
theorem OBuf.set_ne {sz n : Nat} {x : AV} {cs : List AV} {s : AS} {o : Nat} {ds : List AV} (h : OBuf sz s x n cs) (k : onm x≠some o) : OBuf sz (s.set o ds) x n cs:=by
  rcases h with h | ⟨o',cap,rest,rfl,h2,h3⟩
  · exact .inl h
  · exact .inr ⟨o',cap,rest,rfl,by rw [AS.set_objs_ne _ (fun e=>k (by rw [e]; rfl))]; exact h2,h3⟩
theorem OBuf.drop_ne {sz n : Nat} {x : AV} {cs : List AV} {s : AS} {o : Nat} (h : OBuf sz s x n cs) (k : onm x≠some o) : OBuf sz (s.drop o) x n cs:=by
  rcases h with h | ⟨o',cap,rest,rfl,h2,h3⟩
  · exact .inl h
  · exact .inr ⟨o',cap,rest,rfl,by rw [AS.drop_objs,upd_ne _ _ (fun e=>k (by rw [e]; rfl))]; exact h2,h3⟩
theorem OBuf.some {sz n : Nat} {x : AV} {cs : List AV} {s : AS} {o : Nat} (h : OBuf sz s x n cs) (k : onm x = some o) : ∃ ds,s.objs o = some ds:=by
  rcases h with ⟨_,_,rfl | rfl | rfl⟩ | ⟨o',cap,rest,rfl,h2,h3⟩
  · cases k
  · cases k
  · cases k
  · cases k; exact ⟨_,h2⟩
theorem empty_weak {sz : Nat} {sp : Sp} (h : sp = .full∨sp = .new) : (AV.sl sz 0 [] sp).weak (.sl sz 0 [] .any):=by
  intro G u hv
  simp only [VRel] at hv ⊢
  rcases hv with ⟨b,off,cap,vs,h1,h2,h3,h4,h5,h6⟩ | ⟨_,_,a,cap,h1,_⟩ | ⟨_,_,h1,_⟩
  · exact .inl ⟨b,off,cap,vs,h1,h2,h3,h4,h5,trivial⟩
  · exact .inr (.inl ⟨trivial,trivial,a,cap,h1,by simp⟩)
  · rcases h with rfl | rfl <;> cases h1
structure XsOk (s0 s : AS) (T : List (NodeV × AV)) : Prop where
  buf : ∀ p ∈ T,OBuf 1 s p.2 p.1.unm.length (p.1.unm.map intC)
  new : ∀ p ∈ T,∀ o,onm p.2 = some o→s0.objs o = none
  sep : T.Pairwise fun p q=>∀ o,onm p.2 = some o→onm q.2≠some o
structure TreeO (s0 s : AS) (X : AV) (T : List (NodeV × AV)) : Prop where
  xs : XsOk s0 s T
  le : s0.le s
  row : OBuf 5 s X T.length (rowC cellsX T)
  newR : ∀ O,onm X = some O→s0.objs O = none
  sepR : ∀ O,onm X = some O→∀ p ∈ T,onm p.2≠some O
theorem AS.le_none {s s' : AS} (h : s.le s') {o : Nat} (k : s'.objs o = none) : s.objs o = none:=by
  cases hs : s.objs o with
  | none=>rfl
  | some cs=>rw [h.objs _ _ hs] at k; cases k
theorem TreeO.nil (s : AS) : TreeO s s nilS [] :=
  ⟨⟨fun p hp=>absurd hp (List.not_mem_nil),fun p hp=>absurd hp (List.not_mem_nil),.nil⟩,.refl s,.inl ⟨rfl,rfl,.inl rfl⟩,(fun O h=>by cases h),(fun O h=>by cases h)⟩
theorem TreeO.push {s0 s : AS} {X : AV} {T : List (NodeV × AV)} {p : NodeV × AV} {ob cap : Nat} {rest : List AV} (h : TreeO s0 s X T) (hb : OBuf 1 s p.2 p.1.unm.length (p.1.unm.map intC))
    (h1 : ∀ o,onm p.2 = some o→s0.objs o = none∧(∀ q ∈ T,onm q.2≠some o)∧onm X≠some o) (h2 : s.objs ob = none∨∃ cap0,X = .osl ob 0 5 T.length cap0) (h3 : T.length + 1≤cap) (h4 : cap < 2 ^ 63) (h5 : rest.length = (cap - (T.length + 1)) * 5) :
    TreeO s0 (s.set ob (rowC cellsX T ++ cellsX p ++ rest)) (.osl ob 0 5 (T.length + 1) cap) (T ++ [p]):=by
  have hob0 : s0.objs ob = none:=by
    rcases h2 with h2 | ⟨cap0,h2⟩
    · exact AS.le_none h.le h2
    · exact h.newR ob (by rw [h2]; rfl)
  have hne : ∀ q ∈ T ++ [p],onm q.2≠some ob:=by
    intro q hq e
    rw [List.mem_append,List.mem_singleton] at hq
    rcases h2 with h2 | ⟨cap0,h2⟩
    · have : ∃ ds,s.objs ob = some ds:=by
        rcases hq with hq | rfl
        · exact (h.xs.buf q hq).some e
        · exact hb.some e
      rw [h2] at this
      obtain ⟨ds,hd⟩:=this
      cases hd
    · have hX : onm X = some ob:=by rw [h2]; rfl
      rcases hq with hq | rfl
      · exact h.sepR ob hX q hq e
      · exact (h1 ob e).2.2 hX
  refine ⟨⟨fun q hq=>?_,fun q hq o ho=>?_,?_⟩,AS.le_set h.le hob0 _,.inr ⟨ob,cap,rest,by rw [List.length_append]; rfl,by rw [AS.set_objs_same,row_snoc],?_,by rw [List.length_append]; exact h5,by rw [List.length_append]; exact h3,h4⟩,fun O hO=>?_,fun O hO q hq=>?_⟩
  · have hq':=hq
    rw [List.mem_append,List.mem_singleton] at hq
    rcases hq with hq | rfl
    · exact (h.xs.buf q hq).set_ne (hne q hq')
    · exact hb.set_ne (hne q hq')
  · rw [List.mem_append,List.mem_singleton] at hq
    rcases hq with hq | rfl
    · exact h.xs.new q hq o ho
    · exact (h1 o ho).1
  · rw [List.pairwise_append]
    refine ⟨h.xs.sep,List.pairwise_singleton _ _,fun a ha b hb' o ho=>?_⟩
    rw [List.mem_singleton] at hb'
    subst hb'
    intro e
    exact (h1 o e).2.1 a ha ho
  · exact row_len cellsX_len _
  · cases hO; exact hob0
  · cases hO; exact hne q hq
theorem settle_xs {s0 : AS} {O : Nat} {rest : List AV} (hO0 : s0.objs O = none) (x : AV) : ∀ (B : List (NodeV × AV)) (A : List NodeV) (s : AS),XsOk s0 s B→s0.le s→(∀ p ∈ B,onm p.2≠some O)→s.objs O = some (rowC NodeV.cells A ++ rowC cellsX B ++ rest) →
    ∃ s',Settles Γ s x s' x∧s'.objs O = some (rowC NodeV.cells (A ++ B.map (·.1)) ++ rest)∧s0.le s':=by
  intro B
  induction B with
  | nil =>
    intro A s _ hle _ hO
    refine ⟨s,.refl x,?_,hle⟩
    simpa [rowC] using hO
  | cons p B ih =>
    intro A s hx hle hne hO
    have hsplit : rowC NodeV.cells A ++ rowC cellsX (p :: B) ++ rest = (rowC NodeV.cells A ++ [.v (.int .i64 p.1.kind),bytesV p.1.name .any,.v (.int .u64 p.1.key),bytesV p.1.parent .any]) ++ p.2 :: (rowC cellsX B ++ rest):=by
      simp [rowC,cellsX]
    rw [hsplit] at hO
    have hjoin : (rowC NodeV.cells A ++ [.v (.int .i64 p.1.kind),bytesV p.1.name .any,.v (.int .u64 p.1.key),bytesV p.1.parent .any]) ++ intsV p.1.unm .any :: (rowC cellsX B ++ rest) = rowC NodeV.cells (A ++ [p.1]) ++ rowC cellsX B ++ rest:=by
      simp [rowC,NodeV.cells]
    have hsep:=List.pairwise_cons.1 hx.sep
    have hp : p ∈ p :: B:=List.mem_cons_self
    have hrest : ∀ s' : AS,(∀ q ∈ B,OBuf 1 s' q.2 q.1.unm.length (q.1.unm.map intC))→XsOk s0 s' B:=fun s' h=>⟨h,fun q hq=>hx.new q (List.mem_cons_of_mem _ hq),hsep.2⟩
    rcases hx.buf p hp with ⟨h0,hl0,hv⟩ | ⟨o,cap,rs,hv,ho,hcl,hrl,hnc,h63⟩
    · have hw : p.2.weak (intsV p.1.unm .any):=by
        have hu : p.1.unm = []:=List.eq_nil_of_length_eq_zero h0
        rw [hu]
        rcases hv with hv | hv | hv
        · rw [hv]; exact AV.weak_nil
        · rw [hv]; exact empty_weak (.inl rfl)
        · rw [hv]; exact empty_weak (.inr rfl)
      have h1:=Settles.cells (Γ:=Γ) x hO hw
      rw [hjoin] at h1
      obtain ⟨s',k1,k2,k3⟩:=ih (A ++ [p.1]) _ (hrest _ fun q hq=>(hx.buf q (List.mem_cons_of_mem _ hq)).set_ne (hne q (List.mem_cons_of_mem _ hq))) (AS.le_set hle hO0 _) (fun q hq=>hne q (List.mem_cons_of_mem _ hq)) (AS.set_objs_same _ _ _)
      refine ⟨s',h1.trans k1,?_,k3⟩
      simpa using k2
    · have hpo : onm p.2 = some o:=by rw [hv]; rfl
      have hOo : O≠o:=fun e=>hne p hp (by rw [hpo,e])
      rw [hv] at hO
      have h1:=Settles.inner (Γ:=Γ) x hO ho hOo hcl
      have e : (AV.sl 1 p.1.unm.length (p.1.unm.map intC) .any) = intsV p.1.unm .any:=rfl
      rw [e,hjoin] at h1
      obtain ⟨s',k1,k2,k3⟩:=ih (A ++ [p.1]) _ (hrest _ fun q hq=>((hx.buf q (List.mem_cons_of_mem _ hq)).drop_ne (hsep.1 q hq o hpo)).set_ne (hne q (List.mem_cons_of_mem _ hq))) (AS.le_set (AS.le_drop hle (hx.new p hp o hpo)) hO0 _) (fun q hq=>hne q (List.mem_cons_of_mem _ hq)) (AS.set_objs_same _ _ _)
      refine ⟨s',h1.trans k1,?_,k3⟩
      simpa using k2
theorem TreeO.settle {s0 s : AS} {X : AV} {T : List (NodeV × AV)} (h : TreeO s0 s X T) : ∃ s',Settles Γ s X s' (treeV (T.map (·.1)))∧s0.le s':=by
  rcases h.row with ⟨h0,hl0,hv⟩ | ⟨O,cap,rest,hv,hO,hcl,hrl,hnc,h63⟩
  · have hT : T = []:=List.eq_nil_of_length_eq_zero h0
    subst hT
    refine ⟨s,Settles.weak ?_,h.le⟩
    rcases hv with hv | hv | hv
    · rw [hv]; exact AV.weak_nil
    · rw [hv]; exact empty_weak (.inl rfl)
    · rw [hv]; exact empty_weak (.inr rfl)
  · have hX : onm X = some O:=by rw [hv]; rfl
    obtain ⟨s1,k1,k2,k3⟩:=settle_xs (Γ:=Γ) (h.newR O hX) X T [] s h.xs h.le (h.sepR O hX) (by simpa [rowC] using hO)
    rw [List.nil_append] at k2
    have k4:=Settles.outer (Γ:=Γ) (n:=T.length) (sz:=5) (cap:=cap) k2 (by rw [row_len cells_len,List.length_map])
    rw [hv] at k1 ⊢
    refine ⟨_,k1.trans ?_,AS.le_drop k3 (h.newR O hX)⟩
    unfold treeV
    rw [List.length_map]
    exact k4
end Go.AM
namespace Go.AM
open Go Go.RowKit Go.Shelf Go.Proofs
variable {P : Program} {Γ : Nat→List AV} {G : Gh} {s : AS} {w : World} {N : Nat}
theorem SRel.drewN (h : SRel Γ G s w) : ∀ q,SRel Γ G s (w.drewN q)
  | 0=>h
  | q + 1=>(SRel.drewN h q).drew
end Go.AM
namespace Go.AM
open Go Go.RowKit Go.Shelf Go.Proofs Go.Sort
variable {P : Program} {Γ : Nat→List AV} {G : Gh} {s : AS} {w : World} {N : Nat}
theorem SRel.grow (h : SRel Γ G s w) (os : Array Obj) : SRel Γ G s (Go.Sort.grow w os):=by
  refine h.ext ?_
  exact (Below.refl _ _).grown (row:=none) ⟨rfl,rfl,rfl,by simp,fun i hi _=>by simp [Go.Sort.grow,Array.getElem?_append,hi]⟩ (Nat.le_refl _) (fun i e=>by cases e)
theorem sort_calls {ρ : Ren} (L : Lays.n189 P ρ) {o cap : Nat} {l : List Int} {rest : List AV} (hl : l.length < 4611686018427387904) (ho : s.objs o = some (l.map intC ++ rest)) :
    ACalls P Γ (ρ.f 189) [.osl o 0 1 l.length cap] s (fun r s'=>r = .v (.tuple #[])∧s' = s.set o ((l.mergeSort fun x y=>decide (x≤y)).map intC ++ rest)):=by
  intro G w vs hsr hv
  simp only [VRels] at hv
  obtain ⟨u,us,rfl,hx,rfl⟩:=hv
  simp only [VRel] at hx
  obtain ⟨b,hb1,rfl,hn⟩:=hx
  obtain ⟨b',vs,q1,q2,q3,q4⟩:=hsr.objs o _ ho
  rw [hb1] at q1
  cases q1
  have hvt:=q2.take (l.map intC).length
  rw [List.take_left] at hvt
  have hvt:=VRels.ints_eq hvt
  have hH : Holds (Value.int .i64) w b 0 l.toArray:=by
    intro j hj
    have hj' : j < l.length:=by simpa using hj
    rw [Nat.zero_add]
    have : vs[j]? = some (Value.int .i64 l.toArray[j]!):=by
      have h1 : (vs.take (l.map intC).length)[j]? = some (intW l[j]):=by rw [hvt]; simp [hj']
      rw [List.getElem?_take] at h1
      split at h1
      · rw [h1]; simp [intW,hj']
      · cases h1
    exact ⟨(q4 j _ this).1,(q4 j _ this).2.1⟩
  refine (calls_of_every_depth fun D=>AnyS.slices_Sort_int_in L D b 0 cap l w hH (hsr.objLt o b hb1) hl).mono ?_
  rintro e w' ⟨rfl,n,os,rfl⟩
  rw [Go.Lib.putRow_eq_setCells (Value.int .i64) w b 0 l.toArray _ n hH (by simp)]
  have hml : (l.mergeSort fun x y=>decide (x≤y)).length = l.length:=by simp
  generalize (l.mergeSort fun x y=>decide (x≤y)) = m at hml ⊢
  obtain ⟨_,_,f3⟩:=setCells_obj (hsr.drewN n) ho hb1 (off:=0) (ds:=m.map intC) (us:=m.map intW) (by simp; omega) (VRels.ints _)
  have ha:=asetAll_mid (m.map intC) [] (l.map intC ++ rest) (by simp; omega)
  simp only [List.nil_append,List.length_nil,List.length_map,hml] at ha
  rw [show (l.map intC ++ rest).drop l.length = rest by rw [List.drop_append_of_le_length (by simp)]; simp] at ha
  rw [ha] at f3
  exact ⟨G,.v (.tuple #[]),_,_,rfl,.refl G,SRel.grow f3 os,by simp [VRel],rfl,rfl⟩
end Go.AM
namespace Go.Proofs.Ytfbbckndpkmfcaa
open Go Go.AM Go.Proofs
variable {Γ : Nat→List AV}
def renQ : Go.Shelf.Ren:=⟨fun | 125=>65 | 128=>77 | 129=>78 | 189=>57 | 215=>84 | 216=>74 | 257=>64 | 294=>68 | 295=>69 | 296=>70 | 297=>71 | 298=>72 | 299=>73 | 300=>75 | 301=>76 | 328=>79 | 329=>80 | 330=>81 | 331=>82 | 332=>83 | 343=>85 | n=>n,fun | 28=>64 | 46=>105 | 51=>115 | 53=>86 | 131=>112 | 182=>107 | 183=>108 | 218=>117 | 222=>120 | 228=>122 | 229=>123 | n=>n,fun n=>n⟩
theorem laysQ : Lays.n189 Try.prog renQ where
  mixed:=by kernel_rfl
  f125:=(Try.func65).trans (congrArg some (by kernel_rfl))
  f128:=(Try.func77).trans (congrArg some (by kernel_rfl))
  f129:=(Try.func78).trans (congrArg some (by kernel_rfl))
  f189:=(Try.func57).trans (congrArg some (by kernel_rfl))
  f215:=(Try.func84).trans (congrArg some (by kernel_rfl))
  f216:=(Try.func74).trans (congrArg some (by kernel_rfl))
  f257:=(Try.func64).trans (congrArg some (by kernel_rfl))
  f294:=(Try.func68).trans (congrArg some (by kernel_rfl))
  f295:=(Try.func69).trans (congrArg some (by kernel_rfl))
  f296:=(Try.func70).trans (congrArg some (by kernel_rfl))
  f297:=(Try.func71).trans (congrArg some (by kernel_rfl))
  f298:=(Try.func72).trans (congrArg some (by kernel_rfl))
  f299:=(Try.func73).trans (congrArg some (by kernel_rfl))
  f300:=(Try.func75).trans (congrArg some (by kernel_rfl))
  f301:=(Try.func76).trans (congrArg some (by kernel_rfl))
  f328:=(Try.func79).trans (congrArg some (by kernel_rfl))
  f329:=(Try.func80).trans (congrArg some (by kernel_rfl))
  f330:=(Try.func81).trans (congrArg some (by kernel_rfl))
  f331:=(Try.func82).trans (congrArg some (by kernel_rfl))
  f332:=(Try.func83).trans (congrArg some (by kernel_rfl))
  f343:=(Try.func85).trans (congrArg some (by kernel_rfl))
  t0:=Try.underlying0
  a0:=Try.isAgg0
  z0:=Try.sizeOf0
  v0:=Try.zeroValue0
  t3:=Try.underlying3
  a3:=Try.isAgg3
  z3:=Try.sizeOf3
  v3:=Try.zeroValue3
  t4:=Try.underlying4
  a4:=Try.isAgg4
  z4:=Try.sizeOf4
  v4:=Try.zeroValue4
  t5:=Try.underlying5
  a5:=Try.isAgg5
  z5:=Try.sizeOf5
  v5:=Try.zeroValue5
  t9:=Try.underlying9
  a9:=Try.isAgg9
  z9:=Try.sizeOf9
  v9:=Try.zeroValue9
  t28:=Try.underlying64
  a28:=Try.isAgg64
  z28:=Try.sizeOf64
  v28:=Try.zeroValue64
  t46:=Try.underlying105
  a46:=Try.isAgg105
  z46:=Try.sizeOf105
  v46:=Try.zeroValue105
  t51:=Try.underlying115
  a51:=Try.isAgg115
  z51:=Try.sizeOf115
  v51:=Try.zeroValue115
  t53:=Try.underlying86
  a53:=Try.isAgg86
  z53:=Try.sizeOf86
  v53:=Try.zeroValue86
  t131:=Try.underlying112
  a131:=Try.isAgg112
  z131:=Try.sizeOf112
  v131:=Try.zeroValue112
  t182:=Try.underlying107
  a182:=Try.isAgg107
  z182:=Try.sizeOf107
  v182:=Try.zeroValue107
  t183:=Try.underlying108
  a183:=Try.isAgg108
  z183:=Try.sizeOf108
  v183:=Try.zeroValue108
  t218:=Try.underlying117
  a218:=Try.isAgg117
  z218:=Try.sizeOf117
  v218:=Try.zeroValue117
  t222:=Try.underlying120
  a222:=Try.isAgg120
  z222:=Try.sizeOf120
  v222:=Try.zeroValue120
  t228:=Try.underlying122
  a228:=Try.isAgg122
  z228:=Try.sizeOf122
  v228:=Try.zeroValue122
  t229:=Try.underlying123
  a229:=Try.isAgg123
  z229:=Try.sizeOf123
  v229:=Try.zeroValue123
theorem sort_int {o cap : Nat} {l : List Int} {rest : List AV} {s : AS} (hl : l.length < 4611686018427387904) (ho : s.objs o = some (l.map intC ++ rest)) :
    ACalls Try.prog Γ 57 [.osl o 0 1 l.length cap] s (fun r s'=>r = .v (.tuple #[])∧s' = s.set o ((l.mergeSort fun x y=>decide (x≤y)).map intC ++ rest)) :=
  sort_calls laysQ hl ho
end Go.Proofs.Ytfbbckndpkmfcaa
namespace Go.AM
open Go
def nxE (a b : EntV) : Prop:=a.epoch < b.epoch∧a.place < b.place∧a.time≤b.time∧(b.kind = 2→b.epoch = a.epoch + 1)
def chainE (l : List EntV) : Prop:=∀ k,(h : k + 1 < l.length)→nxE l[k] l[k + 1]
def okE (L : LedV) (l : List EntV) : Prop:=l≠[]∧(∀ e,l.head? = some e→e.kind = 1)∧chainE l∧∀ e ∈ l,e.place < L.count∧e.time≤L.time∧0≤e.epoch∧e.epoch≤1048576
def totE : GrpV→Int
  | []=>0
  | (_,es) :: r=>(es.length : Int) + totE r
def LedV.rises (L : LedV) : Prop:=(L.gs.map (·.1)).Nodup∧(∀ q ∈ L.gs,okE L q.2)∧totE L.gs≤L.count∧0≤L.count
theorem new_rises : LedV.new.rises:=⟨by simp [LedV.new],(by intro q hq; cases hq),by decide,by decide⟩
theorem okE.more {L L' : LedV} {l : List EntV} (h : okE L l) (h1 : L.count≤L'.count) (h2 : L.time≤L'.time) : okE L' l:=by
  obtain ⟨a,b,c,d⟩:=h
  exact ⟨a,b,c,fun e he=>by obtain ⟨d1,d2,d3,d4⟩:=d e he; exact ⟨by omega,by omega,d3,d4⟩⟩
theorem totE_len : ∀ {l : GrpV} {q : List UInt8 × List EntV},q ∈ l→(q.2.length : Int)≤totE l
  | (k,es) :: l,q,h=>by
    have h0 : ∀ l : GrpV,0≤totE l:=by
      intro l
      induction l with
      | nil=>exact Int.le_refl _
      | cons x l ih=>obtain ⟨a,b⟩:=x; simp only [totE]; omega
    rcases List.mem_cons.1 h with rfl | h
    · simp only [totE]; have:=h0 l; omega
    · have:=totE_len h
      simp only [totE]; omega
theorem LedV.rises.inv {L : LedV} (h : L.rises) (hc : L.count≤2 ^ 40) : L.inv:=by
  intro q hq
  obtain ⟨a,_,_,d⟩:=h.2.1 q hq
  have:=totE_len hq
  have:=h.2.2.1
  exact ⟨a,by omega,fun e he=>(d e he).2.2⟩
theorem entsOf_none {g : List UInt8} : ∀ {l : GrpV},(∀ q ∈ l,q.2≠[])→entsOf g l = []→∀ q ∈ l,g≠q.1
  | [],_,_,q,hq=>by cases hq
  | (k,es) :: l,h,he,q,hq=>by
    by_cases e : g = k
    · simp only [entsOf,if_pos e] at he
      exact absurd he (h _ List.mem_cons_self)
    · simp only [entsOf,if_neg e] at he
      rcases List.mem_cons.1 hq with rfl | hq
      · exact e
      · exact entsOf_none (fun q hq=>h q (List.mem_cons_of_mem _ hq)) he q hq
theorem setE_spec {g : List UInt8} {v : List EntV} : ∀ {l : GrpV},entsOf g l≠[]→(setE g v l).map (·.1) = l.map (·.1)∧(∀ q ∈ setE g v l,q.2 = v∨q ∈ l)∧totE (setE g v l) = totE l - (entsOf g l).length + v.length
  | [],h=>absurd rfl h
  | (k,es) :: l,h=>by
    by_cases e : g = k
    · simp only [setE,entsOf,if_pos e,totE,List.map_cons] at h ⊢
      refine ⟨trivial,fun q hq=>?_,by omega⟩
      rcases List.mem_cons.1 hq with rfl | hq
      · exact .inl rfl
      · exact .inr (List.mem_cons_of_mem _ hq)
    · simp only [setE,entsOf,if_neg e,totE,List.map_cons] at h ⊢
      obtain ⟨a,b,c⟩:=setE_spec (v:=v) h
      refine ⟨by rw [a],fun q hq=>?_,by rw [c]; omega⟩
      rcases List.mem_cons.1 hq with rfl | hq
      · exact .inr List.mem_cons_self
      · rcases b q hq with x | x
        · exact .inl x
        · exact .inr (List.mem_cons_of_mem _ x)
theorem totE_app (a b : GrpV) : totE (a ++ b) = totE a + totE b:=by
  induction a with
  | nil=>simp [totE]
  | cons x a ih=>obtain ⟨k,es⟩:=x; simp only [List.cons_append,totE,ih]; omega
theorem chainE_snoc {l : List EntV} {e : EntV} (h : chainE l) (hl : l≠[]) (hn : nxE (lastE l) e) : chainE (l ++ [e]):=by
  intro k hk
  rw [List.length_append,List.length_singleton] at hk
  by_cases hk' : k + 1 < l.length
  · rw [List.getElem_append_left (by omega),List.getElem_append_left hk']
    exact h k hk'
  · have hkl : k = l.length - 1:=by omega
    have hpos:=List.length_pos_iff.2 hl
    rw [List.getElem_append_left (by omega),List.getElem_append_right (by omega)]
    have e1 : l[k]'(by omega) = lastE l:=by
      unfold lastE
      rw [List.getLastD_eq_getLast?,List.getLast?_eq_getElem?,List.getElem?_eq_getElem (by omega)]
      simp only [Option.getD_some,hkl]
    rw [e1]
    simpa using hn
theorem lastE_mem {l : List EntV} (h : l≠[]) : lastE l ∈ l:=by
  have hpos:=List.length_pos_iff.2 h
  unfold lastE
  rw [List.getLastD_eq_getLast?,List.getLast?_eq_getElem?,List.getElem?_eq_getElem (by omega)]
  exact List.getElem_mem _
theorem check_ok {L : LedV} {r : Rec} (h : checkV L r = 0) : r.right∧L.time≤r.time∧r.bucket ∉ L.shr∧(r.kind≠3→(r.kind = 2→entsOf r.group L.gs≠[]∧r.epoch = (lastE (entsOf r.group L.gs)).epoch + 1)∧(r.kind = 1→entsOf r.group L.gs≠[]→(lastE (entsOf r.group L.gs)).epoch < r.epoch)):=by
  unfold checkV at h
  by_cases h1 : ¬ r.right
  · rw [if_pos h1] at h; cases h
  · rw [if_neg h1] at h
    by_cases h2 : r.time < L.time
    · rw [if_pos h2] at h; cases h
    · rw [if_neg h2] at h
      by_cases h3 : r.kind = 3
      · rw [if_pos h3] at h
        by_cases h4 : r.bucket ∈ L.shr
        · rw [if_pos h4] at h; cases h
        · exact ⟨Classical.not_not.1 h1,by omega,h4,fun k=>absurd h3 k⟩
      · rw [if_neg h3] at h
        by_cases h4 : r.bucket ∈ L.shr
        · rw [if_pos h4] at h; cases h
        · rw [if_neg h4] at h
          by_cases h5 : r.kind = 2∧entsOf r.group L.gs = []
          · rw [if_pos h5] at h; cases h
          · rw [if_neg h5] at h
            by_cases h6 : (r.kind = 2∧r.epoch≠(lastE (entsOf r.group L.gs)).epoch + 1)∨(r.kind = 1∧entsOf r.group L.gs≠[]∧r.epoch≤(lastE (entsOf r.group L.gs)).epoch)
            · rw [if_pos h6] at h; cases h
            · refine ⟨Classical.not_not.1 h1,by omega,h4,fun _=>⟨fun k=>⟨fun e=>h5 ⟨k,e⟩,Classical.not_not.1 fun e=>h6 (.inl ⟨k,e⟩)⟩,fun k e=>?_⟩⟩
              have : ¬ r.epoch≤(lastE (entsOf r.group L.gs)).epoch:=fun q=>h6 (.inr ⟨k,e,q⟩)
              omega
theorem add_rises {L : LedV} (h : L.rises) (r : Rec) : (addV L r).rises:=by
  unfold addV
  by_cases hv : checkV L r≠0
  · rw [if_pos hv]; exact h
  · rw [if_neg hv]
    obtain ⟨c1,c2,c3,c4⟩:=check_ok (Classical.not_not.1 hv)
    have hf:=c1.facts
    obtain ⟨h1,h2,h3,h4⟩:=h
    by_cases k3 : r.kind = 3
    · rw [if_pos k3]
      exact ⟨h1,fun q hq=>(h2 q hq).more (by simp only; omega) c2,by simp only; omega,by simp only; omega⟩
    · rw [if_neg k3]
      obtain ⟨c5,c6⟩:=c4 k3
      have hne : ∀ q ∈ L.gs,q.2≠[]:=fun q hq=>(h2 q hq).1
      have hent : ∀ L' : LedV,L'.count = L.count + 1→L'.time = r.time→okE L' (entsOf r.group L.gs ++ [entOf L r]):=by
        intro L' e1 e2
        have hnew : (entOf L r).place < L'.count∧(entOf L r).time≤L'.time∧0≤(entOf L r).epoch∧(entOf L r).epoch≤1048576:=by
          unfold entOf
          simp only
          exact ⟨by omega,by omega,by omega,by omega⟩
        rcases entsOf_mem (g:=r.group) (l:=L.gs) with a | ⟨q,a,_,b⟩
        · rw [a]
          refine ⟨by simp,fun e he=>?_,fun k hk=>absurd hk (by simp),fun e he=>?_⟩
          · simp only [List.nil_append,List.head?_cons,Option.some.injEq] at he
            subst he
            have : r.kind≠2:=fun k=>(c5 k).1 a
            unfold entOf
            simp only
            omega
          · simp only [List.nil_append,List.mem_singleton] at he
            subst he
            exact hnew
        · obtain ⟨d1,d2,d3,d4⟩:=h2 q a
          rw [b] at d1 d2 d3 d4
          have hl:=d4 _ (lastE_mem d1)
          refine ⟨by simp,fun e he=>?_,chainE_snoc d3 d1 ?_,fun e he=>?_⟩
          · obtain ⟨y,tl,hy⟩:=List.exists_cons_of_ne_nil d1
            rw [hy] at he d2
            simp only [List.cons_append,List.head?_cons,Option.some.injEq] at he
            exact d2 e (by rw [List.head?_cons,he])
          · unfold nxE entOf
            simp only
            refine ⟨?_,by omega,by omega,fun k=>(c5 k).2⟩
            have hk : r.kind = 1∨r.kind = 2:=by omega
            rcases hk with k | k
            · exact c6 k d1
            · have:=(c5 k).2; omega
          · rw [List.mem_append,List.mem_singleton] at he
            rcases he with he | rfl
            · obtain ⟨x1,x2,x3,x4⟩:=d4 e he
              exact ⟨by omega,by omega,x3,x4⟩
            · exact hnew
      by_cases he : entsOf r.group L.gs = []
      · have hnin:=entsOf_none hne he
        rw [setE_new hnin]
        refine ⟨?_,fun q hq=>?_,?_,by simp only; omega⟩
        · simp only [List.map_append,List.map_cons,List.map_nil]
          rw [List.nodup_append]
          refine ⟨h1,by simp,?_⟩
          intro a ha b hb e
          simp only [List.mem_singleton] at hb
          obtain ⟨q,hq,rfl⟩:=List.mem_map.1 ha
          exact hnin q hq (by rw [e,hb])
        · rcases List.mem_append.1 hq with hq | hq
          · exact (h2 q hq).more (by simp only; omega) c2
          · rw [List.mem_singleton] at hq
            subst hq
            exact hent _ rfl rfl
        · simp only
          rw [totE_app,he]
          simp only [totE,List.nil_append,List.length_singleton]
          omega
      · obtain ⟨s1,s2,s3⟩:=setE_spec (v:=entsOf r.group L.gs ++ [entOf L r]) he
        refine ⟨by rw [s1]; exact h1,fun q hq=>?_,?_,by simp only; omega⟩
        · rcases s2 q hq with x | x
          · rw [x]; exact hent _ rfl rfl
          · exact (h2 q x).more (by simp only; omega) c2
        · simp only
          rw [s3,List.length_append,List.length_singleton]
          omega
theorem add_err {L : LedV} {r : Rec} (h : checkV L r≠0) : addV L r = L:=if_pos h
theorem entsOf_at : ∀ {l : GrpV} {i : Nat} (h : i < l.length),(l.map (·.1)).Nodup→entsOf l[i].1 l = l[i].2
  | (k,es) :: l,0,_,_=>by simp [entsOf]
  | (k,es) :: l,i + 1,h,hn=>by
    simp only [List.map_cons,List.nodup_cons] at hn
    have hi : i < l.length:=by simpa using h
    have e : l[i].1≠k:=fun e=>hn.1 (by rw [← e]; exact List.mem_map_of_mem (List.getElem_mem hi))
    simp only [List.getElem_cons_succ,entsOf,if_neg e]
    exact entsOf_at hi hn.2
end Go.AM
namespace Go.AM
open Go
def entR (i : Nat) (r : Rec) : EntV:=⟨i,r.kind,r.epoch,r.time,r.bucket⟩
def entsR (g : List UInt8) (l : List Rec) : List EntV:=(l.zipIdx.filter fun x=>decide (x.1.kind≠3∧x.1.group = g)).map fun x=>entR x.2 x.1
def shrR (b : Int) (l : List Rec) : Bool:=l.any fun r=>decide (r.kind = 3∧r.bucket = b)
def timeR (l : List Rec) : Int:=(l.getLast?.map (·.time)).getD 0
def checkR (l : List Rec) (r : Rec) : Int :=
  if ¬ r.right then 12
  else if r.time < timeR l then 2
  else if shrR r.bucket l then (if r.kind = 3 then 51 else 30)
  else if r.kind = 3 then 0
  else if r.kind = 2∧entsR r.group l = [] then 41
  else if entsR r.group l≠[]∧((r.kind = 2∧r.epoch≠(lastE (entsR r.group l)).epoch + 1)∨(r.kind = 1∧r.epoch≤(lastE (entsR r.group l)).epoch)) then 42
  else 0
def grpAdd (out : List (List UInt8)) (r : Rec) : List (List UInt8):=if r.kind = 3∨r.group ∈ out then out else out ++ [r.group]
def grpsR (l : List Rec) : List (List UInt8):=l.foldl grpAdd []
def insB (b : Int) (out : List Int) : List Int:=(out.takeWhile fun x=>decide (x < b)) ++ b :: (if (out.dropWhile fun x=>decide (x < b)).head? = some b then (out.dropWhile fun x=>decide (x < b)).tail else out.dropWhile fun x=>decide (x < b))
def bktAdd (l : List Rec) (out : List Int) (r : Rec) : List Int:=if r.kind = 3∨shrR r.bucket l = true then out else insB r.bucket out
def bktsR (l : List Rec) : List Int:=l.foldl (bktAdd l) []
theorem entsR_snoc (g : List UInt8) (l : List Rec) (r : Rec) : entsR g (l ++ [r]) = entsR g l ++ if r.kind≠3∧r.group = g then [entR l.length r] else []:=by
  unfold entsR
  rw [List.zipIdx_append]
  simp only [List.zipIdx_cons,List.zipIdx_nil,List.filter_append,List.map_append,List.filter_cons,List.filter_nil,Nat.zero_add]
  by_cases h : r.kind≠3∧r.group = g
  · simp [h]
  · simp [h]
theorem grpsR_snoc (l : List Rec) (r : Rec) : grpsR (l ++ [r]) = grpAdd (grpsR l) r:=by simp [grpsR]
theorem shrR_snoc (b : Int) (l : List Rec) (r : Rec) : shrR b (l ++ [r]) = (shrR b l || decide (r.kind = 3∧r.bucket = b)):=by simp [shrR]
theorem timeR_snoc (l : List Rec) (r : Rec) : timeR (l ++ [r]) = r.time:=by simp [timeR]
structure Rep (L : LedV) (l : List Rec) : Prop where
  count : L.count = l.length
  time : L.time = timeR l
  ents : ∀ g,entsOf g L.gs = entsR g l
  grps : L.gs.map (·.1) = grpsR l
  shr : ∀ b,b ∈ L.shr↔shrR b l = true
  rises : L.rises
theorem rep_new : Rep LedV.new []:=⟨rfl,rfl,fun _=>rfl,rfl,fun b=>by simp [LedV.new,shrR],new_rises⟩
theorem Rep.check {L : LedV} {l : List Rec} (h : Rep L l) (r : Rec) : checkV L r = checkR l r:=by
  unfold checkV checkR
  rw [h.time,h.ents]
  simp only [h.shr]
  by_cases h1 : r.right
  · have hk:=h1.facts
    simp only [h1,not_true_eq_false,if_false]
    split
    · rfl
    · by_cases h3 : r.kind = 3
      · simp [h3]
      · simp only [h3,if_false]
        split
        · rfl
        · split
          · rfl
          · rename_i q
            by_cases he : entsR r.group l = []
            · simp only [he,and_true] at q
              simp [he,q]
            · simp [he]
  · simp [h1]
theorem entsOf_setE (g g' : List UInt8) (v : List EntV) : ∀ l : GrpV,entsOf g (setE g' v l) = if g = g' then v else entsOf g l
  | []=>rfl
  | (k,es) :: l=>by
    have ih:=entsOf_setE g g' v l
    grind [setE,entsOf]
theorem Rep.add {L : LedV} {l : List Rec} (h : Rep L l) {r : Rec} (hc : checkV L r = 0) : Rep (addV L r) (l ++ [r]):=by
  have hr:=add_rises h.rises r
  obtain ⟨c1,c2,c3,c4⟩:=check_ok hc
  unfold addV at hr ⊢
  rw [if_neg (fun q=>q hc)] at hr ⊢
  by_cases k : r.kind = 3
  · rw [if_pos k] at hr ⊢
    exact ⟨by simp [h.count],by rw [timeR_snoc],fun g=>by rw [entsR_snoc,if_neg (fun q=>q.1 k),List.append_nil]; exact h.ents g,
      by rw [grpsR_snoc,grpAdd,if_pos (.inl k)]; exact h.grps,fun b=>by rw [shrR_snoc]; have:=h.shr b; grind,hr⟩
  · rw [if_neg k] at hr ⊢
    refine ⟨by simp [h.count],by rw [timeR_snoc],fun g=>?_,?_,fun b=>by rw [shrR_snoc]; simp [h.shr b,k],hr⟩
    · simp only
      rw [entsOf_setE,entsR_snoc]
      by_cases e : g = r.group
      · subst e
        rw [if_pos rfl,if_pos ⟨k,rfl⟩,h.ents]
        simp [entOf,entR,h.count]
      · rw [if_neg e,if_neg (fun q=>e q.2.symm),List.append_nil]
        exact h.ents g
    · simp only
      rw [grpsR_snoc,← h.grps]
      unfold grpAdd
      have hne : ∀ q ∈ L.gs,q.2≠[]:=fun q hq=>(h.rises.2.1 q hq).1
      by_cases he : entsOf r.group L.gs = []
      · have hn:=entsOf_none hne he
        rw [setE_new hn,if_neg,List.map_append]
        · rfl
        · rintro (a | a)
          · exact k a
          · obtain ⟨q,hq,e⟩:=List.mem_map.1 a
            exact hn q hq e.symm
      · rw [(setE_spec he).1,if_pos]
        rcases entsOf_mem (g:=r.group) (l:=L.gs) with a | ⟨q,a,b,_⟩
        · exact absurd a he
        · exact .inr (List.mem_map.2 ⟨q,a,b⟩)
theorem insB_spec (b : Int) : ∀ {out : List Int},out.Pairwise (· < ·)→(insB b out).Pairwise (· < ·)∧∀ x,x ∈ insB b out↔x = b∨x ∈ out
  | [],_=>by simp [insB]
  | y :: out,h=>by
    rw [List.pairwise_cons] at h
    obtain ⟨i1,i2⟩:=insB_spec b h.2
    by_cases h1 : y < b
    · have e : insB b (y :: out) = y :: insB b out:=by simp [insB,h1]
      rw [e]
      refine ⟨List.pairwise_cons.2 ⟨fun x hx=>?_,i1⟩,fun x=>by simp only [List.mem_cons,i2]; grind⟩
      rcases (i2 x).1 hx with rfl | hx
      · exact h1
      · exact h.1 x hx
    · by_cases h2 : y = b
      · subst h2
        have e : insB y (y :: out) = y :: out:=by simp [insB]
        rw [e]
        exact ⟨List.pairwise_cons.2 h,fun x=>by simp⟩
      · have e : insB b (y :: out) = b :: y :: out:=by simp [insB,h1,h2]
        rw [e]
        refine ⟨List.pairwise_cons.2 ⟨fun x hx=>?_,List.pairwise_cons.2 h⟩,fun x=>by simp⟩
        rcases List.mem_cons.1 hx with rfl | hx
        · omega
        · have:=h.1 x hx; omega
theorem bkts_go (l0 : List Rec) : ∀ (l : List Rec) (out : List Int),out.Pairwise (· < ·)→(l.foldl (bktAdd l0) out).Pairwise (· < ·)∧∀ x,x ∈ l.foldl (bktAdd l0) out↔x ∈ out∨∃ r ∈ l,r.kind≠3∧shrR r.bucket l0≠true∧r.bucket = x
  | [],out,h=>by simp [h]
  | r :: l,out,h=>by
    rw [List.foldl_cons]
    by_cases hc : r.kind = 3∨shrR r.bucket l0 = true
    · have e : bktAdd l0 out r = out:=if_pos hc
      rw [e]
      obtain ⟨i1,i2⟩:=bkts_go l0 l out h
      refine ⟨i1,fun x=>?_⟩
      rw [i2]
      grind
    · have e : bktAdd l0 out r = insB r.bucket out:=if_neg hc
      rw [e]
      obtain ⟨j1,j2⟩:=insB_spec r.bucket h
      obtain ⟨i1,i2⟩:=bkts_go l0 l _ j1
      refine ⟨i1,fun x=>?_⟩
      rw [i2,j2]
      grind
theorem rise_ext : ∀ {a b : List Int},a.Pairwise (· < ·)→b.Pairwise (· < ·)→(∀ x,x ∈ a↔x ∈ b)→a = b
  | [],[],_,_,_=>rfl
  | [],y :: b,_,_,h=>by have:=(h y).2 (by simp); cases this
  | x :: a,[],_,_,h=>by have:=(h x).1 (by simp); cases this
  | x :: a,y :: b,h1,h2,h=>by
    rw [List.pairwise_cons] at h1 h2
    have hx:=(h x).1 (by simp)
    have hy:=(h y).2 (by simp)
    have e : x = y:=by
      rcases List.mem_cons.1 hx with e | hx
      · exact e
      · rcases List.mem_cons.1 hy with e | hy
        · exact e.symm
        · have:=h2.1 x hx; have:=h1.1 y hy; omega
    subst e
    rw [rise_ext h1.2 h2.2 fun z=>?_]
    have:=h z
    have:=h1.1 z
    have:=h2.1 z
    grind
theorem mem_entsR {g : List UInt8} {l : List Rec} {e : EntV} : e ∈ entsR g l↔∃ i,∃ h : i < l.length,l[i].kind≠3∧l[i].group = g∧e = entR i l[i]:=by
  unfold entsR
  simp only [List.mem_map,List.mem_filter,decide_eq_true_eq,Prod.exists,List.mem_zipIdx_iff_getElem?]
  constructor
  · rintro ⟨r,i,⟨h1,h2,h3⟩,rfl⟩
    obtain ⟨hi,rfl⟩:=List.getElem?_eq_some_iff.1 h1
    exact ⟨i,hi,h2,h3,rfl⟩
  · rintro ⟨i,hi,h2,h3,rfl⟩
    exact ⟨_,i,⟨List.getElem?_eq_getElem hi,h2,h3⟩,rfl⟩
theorem Rep.buckets {L : LedV} {l : List Rec} (h : Rep L l) {K : List Int} (hn : K.Nodup) (hK : ∀ b,b ∈ K↔∃ q ∈ L.gs,∃ e ∈ q.2,e.bucket = b∧b ∉ L.shr) : (K.mergeSort fun x y=>decide (x≤y)) = bktsR l:=by
  obtain ⟨i1,i2⟩:=bkts_go l l [] (by simp)
  refine rise_ext ?_ i1 fun x=>?_
  · have h1 : (K.mergeSort fun x y=>decide (x≤y)).Pairwise (fun x y=>decide (x≤y) = true):=List.pairwise_mergeSort (by intro a b c; simp; omega) (by intro a b; simp; omega) K
    have h2 : (K.mergeSort fun x y=>decide (x≤y)).Nodup:=(List.mergeSort_perm K _).nodup_iff.2 hn
    exact (h1.and h2).imp (by intro a b ⟨p,q⟩; simp at p; omega)
  · rw [List.mem_mergeSort,hK]
    unfold bktsR
    rw [i2]
    simp only [List.not_mem_nil,false_or]
    constructor
    · rintro ⟨q,hq,e,he,rfl,hb⟩
      obtain ⟨j,hj,rfl⟩:=List.getElem_of_mem hq
      have h1:=entsOf_at hj h.rises.1
      rw [h.ents] at h1
      rw [← h1] at he
      obtain ⟨i,hi,k1,k2,rfl⟩:=mem_entsR.1 he
      exact ⟨l[i],List.getElem_mem hi,k1,fun q=>hb ((h.shr _).2 q),rfl⟩
    · rintro ⟨r,hr,k1,k2,rfl⟩
      obtain ⟨i,hi,rfl⟩:=List.getElem_of_mem hr
      have h1 : entR i l[i] ∈ entsR l[i].group l:=mem_entsR.2 ⟨i,hi,k1,rfl,rfl⟩
      rw [← h.ents] at h1
      rcases entsOf_mem (g:=l[i].group) (l:=L.gs) with a | ⟨q,a,b,c⟩
      · rw [a] at h1; cases h1
      · rw [← c] at h1
        exact ⟨q,a,_,h1,rfl,fun q=>k2 ((h.shr _).1 q)⟩
end Go.AM
namespace Go.AM
open Go
theorem set_shr_mem (b : Int) : ∀ l : List Int,b ∈ l→amSet (.int .i64) (.int .i64 b) (.v (.bool true)) (l.map shrKV) = some (l.map shrKV)
  | [],h=>by cases h
  | x :: l,h=>by
    simp only [List.map_cons,shrKV,amSet,Instr.sameNow,if_true]
    by_cases e : b = x
    · subst e; simp
    · have ih:=set_shr_mem b l ((List.mem_cons.1 h).resolve_left e)
      have : (b == x) = false:=by simpa using e
      simp only [this]
      rw [ih]
      rfl
def putB (b : Int) (l : List Int) : List Int:=if b ∈ l then l else l ++ [b]
theorem set_putB (b : Int) (l : List Int) : amSet (.int .i64) (.int .i64 b) (.v (.bool true)) (l.map shrKV) = some ((putB b l).map shrKV):=by
  unfold putB
  split
  · rename_i h; exact set_shr_mem b l h
  · rename_i h; exact set_shr b l h
theorem putB_spec (b : Int) (l : List Int) (h : l.Nodup) : (putB b l).Nodup∧(putB b l).length≤l.length + 1∧∀ x,x ∈ putB b l↔x = b∨x ∈ l:=by
  unfold putB
  split
  · refine ⟨h,by omega,by grind⟩
  · refine ⟨?_,by simp,by grind⟩
    rw [List.nodup_append]
    refine ⟨h,by simp,by grind⟩
def totG (l : List GEnt) : Nat:=(l.map fun x=>x.es.length).sum
theorem erase_facts {α : Type} : ∀ {l : List α} {i : Nat} (h : i < l.length),(∀ x,x ∈ l↔x = l[i]∨x ∈ l.eraseIdx i)∧∀ f : α→Nat,(l.map f).sum = f l[i] + ((l.eraseIdx i).map f).sum
  | x :: l,0,_=>by simp
  | x :: l,i + 1,h=>by
    obtain ⟨h1,h2⟩:=erase_facts (l:=l) (i:=i) (by simpa using h)
    refine ⟨fun y=>?_,fun f=>?_⟩
    · simp only [List.mem_cons,List.getElem_cons_succ,List.eraseIdx_cons_succ,h1 y]
      grind
    · simp only [List.map_cons,List.sum_cons,List.getElem_cons_succ,List.eraseIdx_cons_succ,h2 f]
      omega
theorem map_erase {α β : Type} (f : α→β) : ∀ (l : List α) (i : Nat),(l.map f).eraseIdx i = (l.eraseIdx i).map f
  | [],_=>rfl
  | _ :: _,0=>rfl
  | x :: l,i + 1=>by simp only [List.map_cons,List.eraseIdx_cons_succ,map_erase f l i]
theorem AS.le_putM {s s' : AS} {b b' : Nat} {m m' : MO} (h : s.le (s'.putM b m)) (hb : s.maps b' = none) (hne : b'≠b) : s.le ((s'.putM b' m').putM b m):=by
  refine ⟨h.objs,h.own,fun c l hl=>?_⟩
  have e : c≠b':=by rintro rfl; rw [hb] at hl; cases hl
  have:=h.maps c l hl
  by_cases q : c = b
  · simpa [AS.putM,upd,q] using this
  · simpa [AS.putM,upd,q,e] using this
structure BkS (s : AS) (gs : List GEnt) (shr : List Int) (b1 b3 r : Nat) (es : Array MapEntry) (c : Nat) (left : List GEnt) (KL : List Int) (s' : AS) : Prop where
  m1 : s'.maps b1 = some (.fix (gs.map GEnt.kv) es c)
  mr : ∃ cur,s'.maps r = some (.iter b1 es c (left.map GEnt.kv) cur)
  m3 : s'.maps b3 = some (.map (KL.map shrKV))
  le : s.le (s'.putM b1 (.map (gs.map GEnt.kv)))
  nodup : KL.Nodup
  mem : ∀ x ∈ left,x ∈ gs
  has : ∀ b ∈ KL,∃ x ∈ gs,∃ e ∈ x.es,e.bucket = b∧b ∉ shr
variable {s : AS} {gs : List GEnt} {shr : List Int} {b1 b3 r : Nat} {es : Array MapEntry} {c : Nat} {left : List GEnt} {KL : List Int} {s' : AS}
theorem BkS.next (h : BkS s gs shr b1 b3 r es c left KL s') (hr : s.maps r = none) (h1 : r≠b1) (h3 : r≠b3) {i : Nat} (hi : i < left.length) :
    BkS s gs shr b1 b3 r es c (left.eraseIdx i) KL (s'.putM r (.iter b1 es c ((left.eraseIdx i).map GEnt.kv) (some left[i].kv))) where
  m1:=by simpa [AS.putM,upd,h1.symm] using h.m1
  mr:=⟨_,by simp [AS.putM]; rfl⟩
  m3:=by simpa [AS.putM,upd,h3.symm] using h.m3
  le:=AS.le_putM h.le hr h1
  nodup:=h.nodup
  mem:=fun x hx=>h.mem x (((erase_facts hi).1 x).2 (.inr hx))
  has:=h.has
theorem BkS.obj (h : BkS s gs shr b1 b3 r es c left KL s') {o : Nat} (ho : s'.objs o = none) (cs : List AV) : BkS s gs shr b1 b3 r es c left KL (s'.set o cs) where
  m1:=h.m1
  mr:=h.mr
  m3:=h.m3
  le:=AS.le_set (s':=s'.putM b1 (.map (gs.map GEnt.kv))) h.le (AS.le_none h.le ho) cs
  nodup:=h.nodup
  mem:=h.mem
  has:=h.has
theorem BkS.add (h : BkS s gs shr b1 b3 r es c left KL s') (h3 : s.maps b3 = none) (hn : b3≠b1) (hr : r≠b3) {b : Int} (hb : ∃ x ∈ gs,∃ e ∈ x.es,e.bucket = b∧b ∉ shr) : BkS s gs shr b1 b3 r es c left (putB b KL) (s'.setMap b3 ((putB b KL).map shrKV)) where
  m1:=by simpa [AS.setMap,AS.putM,upd,hn.symm] using h.m1
  mr:=by obtain ⟨cur,q⟩:=h.mr; exact ⟨cur,by simpa [AS.setMap,AS.putM,upd,hr] using q⟩
  m3:=by simp [AS.setMap,AS.putM]
  le:=AS.le_putM h.le h3 hn
  nodup:=(putB_spec b KL h.nodup).1
  mem:=h.mem
  has:=fun x hx=>(((putB_spec b KL h.nodup).2.2 x).1 hx).elim (fun e=>e ▸ hb) (h.has x)
end Go.AM
