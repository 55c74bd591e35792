/- Contracts of the program's functions, each walked once; the conditions stand in each theorem. -/
import Derived.Test.YtfjlmkifiihgkaaGreatDoorAMp6
import Derived.Test.YtfjlmkifiihgkaaGreatDoorW1
import Derived.Test.YtfjlmkifiihgkaaGreatDoorW10
import Derived.Test.YtfjlmkifiihgkaaGreatDoorW2
import Derived.Test.YtfjlmkifiihgkaaGreatDoorW9
import Derived.Test.YtfjlmkifiihgkaaGreatDoorAMp7
set_option linter.unusedSimpArgs false
set_option linter.unusedVariables false
open Nat renaming reduceLT → Na, reduceLeDiff → Nb, reduceEqDiff → Nc, reduceAdd → Nk, reduceMul → Nf, reducePow → Ng, reduceSub → Nh, reduceBEq → Nz
open Int renaming reduceLT → Za, reduceLE → Zb, reduceToNat → Zc
open And renaming intro → Ai
open Go.AM renaming ashift → Qa, aconv → Qb, aindexAddr → Qc, aindex → Qd, aslice → Qe, abuiltin → Qf, awp_reg_seq → wS, awp_reg_end → wE, awp_seq_k → wK, awp_cond_k → wC
open Go.AM.AV renaming cells → Qg, one → Qh
set_option maxRecDepth 100000
set_option maxHeartbeats 8000000
set_option autoImplicit false
namespace Go.Proofs.YtfjlmkifiihgkaaGreatDoor
open Go Go.AM Go.Proofs
variable {Γ : Nat→List AV}
theorem with20_calls (t : List NodeV) (h0 : t.length≠0) (hl : t.length≤2 ^ 30) (i : Nat) (hi : i < t.length) (n : NodeV) (s : AS) :
  ACalls Tryz.prog Γ 139 [treeV t,.v (.int .i64 i),.agg n.cells] s (fun r s'=>r = treeV (t.set i n)∧s' = s):=by
 have hrow:=fun rest=>row_setC (c:=NodeV.cells) (k:=5) (fun _=>rfl) hi n rest
 have hrl : (rowC NodeV.cells t).length = t.length * 5:=Go.AM.row_len (c:=NodeV.cells) cells_len t
 have hrl2 : (rowC NodeV.cells (t.set i n)).length = t.length * 5:=by rw [Go.AM.row_len (c:=NodeV.cells) cells_len,List.length_set]
 have hone:=row_ones t
 refine ACalls.settle (Q:=fun r s'=>∃ ob cap rest,s.objs ob = none∧r = .osl ob 0 5 t.length cap∧s' = s.set ob (rowC NodeV.cells (t.set i n) ++ rest)) ?_ ?_
 ·refine acalls_body Tryz.func139 rfl Tryz.ntmps139 Tryz.results139 (by simp) ?_
  unfold treeV at *
  generalize hY : rowC NodeV.cells (t.set i n) = Y at *
  generalize hX : rowC NodeV.cells t = X at *
  clear hY hX
  obtain ⟨nk,nm,ny,npa,nu⟩:=n
  unfold NodeV.cells at *
  refine awp_reg_frz 5 (by decide) ?_
  intro K hK
  simp only [↓DM,pval,DX,Nz,↓DN,Qa,Qb,Qc,Qd,Qe,Qf,Qg,Qh,reduceCtorEq,↓reduceIte,Na,Nb,Nc,Nk,Nf,Ng,Nh,Za,Zb,Zc,TT,intsV]
  intro o ho
  refine hK _ _ o _ (by simp only [upd,Nc,↓reduceIte]) ho ?_
  clear hK K ho
  refine awp_reg_at2 rfl (by decide) ?_
  intro ops
  simp only [↓DM,pval,DX,Nz,↓DN,Qa,Qb,Qc,Qd,Qe,Qf,Qg,Qh,reduceCtorEq,↓reduceIte,Na,Nb,Nc,Nk,Nf,Ng,Nh,Za,Zb,Zc,TT]
  refine ⟨_,fun G a w hr=>append_own_res (n:=0) (m:=t.length) (cs:=[]) (ds:=X) (e:=69) rfl Tryz.underlying26 (by simp only [↓DN,Qa,Qb,Qc,Qd,Qe,Qf,Qg,Qh,reduceCtorEq,↓reduceIte,Na,Nb,Nc,Nk,Nf,Ng,Nh,Za,Zb,Zc,TT]; try rfl) T.z69 (by rw [T.c69]; decide) (by rw [T.c69]; rfl) (by rw [T.c69]; simp only [↓DN,Qa,Qb,Qc,Qd,Qe,Qf,Qg,Qh,reduceCtorEq,↓reduceIte,Na,Nb,Nc,Nk,Nf,Ng,Nh,Za,Zb,Zc,TT,asrc,aeval,upd,Nc,↓reduceIte]) h0 (by rw [T.b69]; omega) (by omega) hone (by rw [T.c69]; exact .inl ⟨rfl,rfl,.inr (.inr rfl)⟩) hr.eval hr.st,?_⟩
  rw [T.c69]
  rintro r s1 ⟨ob,cap,rest,rfl,hcap,h63,hrest,hob,rfl⟩
  have hob : s.objs ob = none:=by
   rcases hob with h | ⟨_,h⟩
   ·exact h
   ·simp [aeval,upd] at h
  simp only [↓DM,pval,DX,Nz,↓DN,Qa,Qb,Qc,Qd,Qe,Qf,Qg,Qh,reduceCtorEq,↓reduceIte,Na,Nb,Nc,Nk,Nf,Ng,Nh,Za,Zb,Zc,TT]
  rw [Nat.zero_add] at *
  have hge : (0 : Int)≤((i : Nat) : Int):=by omega
  have hrow':=hrow rest
  simp only [asetAll] at hrow'
  have hRl : (X ++ rest).length = X.length + rest.length:=List.length_append
  generalize X ++ rest = R at *
  refine wS fun K hK=>?_
  simp only [↓DN,Qa,Qb,Qc,Qd,Qe,Qf,Qg,Qh,reduceCtorEq,↓reduceIte,Na,Nb,Nc,Nk,Nf,Ng,Nh,Za,Zb,Zc,TT,hge,hi,eye_lt_nat]
  refine ⟨by omega,hK _ _ ?_⟩
  clear hK K
  refine jA ?_
  refine jI ?_
  refine ⟨_,_,AV.weak.refl _,AS.le.refl _,ob,cap,rest,hob,rfl,?_⟩
  rw [← hrow']
  rfl
 ·rintro r s1 ⟨ob,cap,rest,hob,rfl,rfl⟩
  refine ⟨s,treeV (t.set i n),?_,rfl,rfl⟩
  have:=Settles.tree (Γ:=Γ) (t:=t.set i n) (cap:=cap) (rest:=rest) hob
  rwa [List.length_set] at this
end Go.Proofs.YtfjlmkifiihgkaaGreatDoor
namespace Go.Proofs.YtfjlmkifiihgkaaGreatDoor
open Go Go.AM Go.Proofs
variable {Γ : Nat→List AV}
theorem refLeafOf20_calls (name : List UInt8) (key : Nat) (hn : name.length≤2 ^ 45) (s : AS) : ACalls Tryz.prog Γ 58 [.v (.string ⟨name.toArray⟩),.v (.int .u64 key)] s (fun r s'=>r = .agg (leafN name key).cells∧s' = s):=by
 refine acalls_body Tryz.func58 rfl Tryz.ntmps58 Tryz.results58 (by simp) ?_
 refine jQ fun K hK=>?_
 intro o ho
 refine hK _ _ ?_;clear hK K
 refine jA ?_
 refine awp_ret ?_
 refine aends_cell (o:=o) (off:=0) (by simp only [upd,Nc,↓reduceIte]) (AS.set_objs_same _ _ _) (by rw [T.c69]; decide) (by simp only [↓DN,Qa,Qb,Qc,Qd,Qe,Qf,Qg,Qh,reduceCtorEq,↓reduceIte,Na,Nb,Nc,Nk,Nf,Ng,Nh,Za,Zb,Zc,TT]; rfl) ?_
 exact ⟨_,s,AV.weak_agg (.cons (AV.weak.refl _) (.cons AV.weak_any (.cons (AV.weak.refl _) (.cons AV.weak_nil (.cons AV.weak_nil .nil))))),AS.le_set (AS.le.refl s) ho _,rfl,rfl⟩
theorem refBlanked20_calls (t : List NodeV) (ht : TreeW t) (h1 : rightT t) (leaf : Nat) (hleaf : leaf < lvs t) (s : AS) :
  ACalls Tryz.prog Γ 142 [treeV t,.v (.int .i64 leaf)] s (fun r s'=>r = treeV (blankT t leaf)∧s' = s):=by
 have hlv:=fun s=>refLeaves_calls (Γ:=Γ) t ht.1 s
 have hlen:=h1.len
 have hlvs:=lvs_le t
 have hpc:=fun s=>refPath18_calls (Γ:=Γ) leaf (lvs t) hlen.2 hleaf s
 have hpm:=fun x hx=>path_mem hlen.2 hleaf x hx
 have hpl:=path_len hlen.2 hleaf
 have hb : blankT t leaf = blankL (pathL leaf (lvs t)) t:=rfl
 rw [hb]
 refine acalls_body Tryz.func142 rfl Tryz.ntmps142 Tryz.results142 (by simp) ?_
 have hwi : ∀ (l : List Nat) (i : Nat) (hi : i < t.length) (s : AS),ACalls Tryz.prog Γ 139 [treeV (blankL l t),.v (.int .i64 i),.agg NodeV.nought.cells] s (fun r s'=>r = treeV ((blankL l t).set i NodeV.nought)∧s' = s) :=
  fun l i hi s=>with20_calls (blankL l t) (by rw [blankL_len]; omega) (by rw [blankL_len]; omega) i (by rw [blankL_len]; exact hi) NodeV.nought s
 have hn0 : NodeV.nought.cells = [.v (.int .i64 0),.sl 1 0 [] .any,.v (.int .u64 0),.sl 1 0 [] .any,.sl 1 0 [] .any]:=rfl
 rw [hn0] at hwi
 replace hwi:=fun (l : List Nat) (i : Nat) (hi : i < t.length) (s : AS)=>ACalls.weaks (args:=[treeV (blankL l t),.v (.int .i64 (i : Int)),.agg [.v (.int .i64 0),.v (.slice none 0 0),.v (.int .u64 0),.v (.slice none 0 0),.v (.slice none 0 0)]]) (.cons (AV.weak.refl _) (.cons (AV.weak.refl _) (.cons (AV.weak_agg (.cons (AV.weak.refl _) (.cons AV.weak_nil (.cons (AV.weak.refl _) (.cons AV.weak_nil (.cons AV.weak_nil .nil)))))) .nil))) (hwi l i hi s)
 have hT0 : treeV t = treeV (blankL [] t):=rfl
 refine jA ?_
 refine jQ fun K hK=>?_
 refine acallk (hlv _) ?_
 rintro r s1 ⟨rfl,rfl⟩
 simp only [↓DM,pval,DX,Nz,↓DN,Qa,Qb,Qc,Qd,Qe,Qf,Qg,Qh,reduceCtorEq,↓reduceIte,Na,Nb,Nc,Nk,Nf,Ng,Nh,Za,Zb,Zc,TT]
 refine acallk (hpc _) ?_
 rintro r s2 ⟨rfl,rfl⟩
 unfold intsV
 have hPn:=natsI_len (pathL leaf (lvs t))
 have hPat : ∀ (i : Nat) (hi : i < (pathL leaf (lvs t)).length),List.take 1 (List.drop i ((natsI (pathL leaf (lvs t))).map intC)) = [.v (.int .i64 (((pathL leaf (lvs t))[i] : Nat) : Int))]:=by
  intro i hi
  rw [eat_int (by rw [natsI_len]; exact hi)]
  simp [natsI]
 have hfo:=fun (i : Nat) (hi : i < (pathL leaf (lvs t)).length) (M : List NodeV)=>foldl_take_succ (fun (t : List NodeV) u=>t.set u NodeV.nought) M hi
 have hfull : (pathL leaf (lvs t)).take (pathL leaf (lvs t)).length = pathL leaf (lvs t):=List.take_length
 generalize natsI (pathL leaf (lvs t)) = PI at *
 generalize pathL leaf (lvs t) = P at *
 rw [hPn]
 refine jR hK ?_;clear hK K
 refine wK fun K hK=>?_
 refine jA ?_
 refine awp_block ?_
 refine awp_loop (fun E s2'=>∃ (i : Nat),i≤P.length∧E 6 = .v (.int .i64 i)∧E 5 = .sl 1 P.length (PI.map intC) .any∧E 0 = treeV (blankL (P.take i) t)∧s2' = s2)
  (fun E _=>match E 6 with | .v (.int _ i)=>P.length - i.toNat | _=>0) ?_ ?_
 ·exact ⟨0,Nat.zero_le _,by simp only [upd,Nc,↓reduceIte]; rfl,by simp only [upd,Nc,↓reduceIte],by simp only [upd,initE,List.getD_cons_zero,Nc,↓reduceIte]; exact hT0,rfl⟩
 ·rintro E1 s5 ⟨i,hi,g6,g5,g0,rfl⟩ -
  refine wK fun K2 hK2=>?_
  by_cases hi' : i < P.length
  ·refine jB (Ai @g6 (Ai @g5 (Ai @eye_lt_nat (decide_eq_true hi')))) ?_
   refine jE ?_
   refine awp_skip ?_
   refine hK2 _ _ ?_;clear hK2 K2
   refine wK fun K3 hK3=>?_
   refine awp_block ?_
   have hge : (0 : Int)≤((i : Nat) : Int):=by omega
   have hat:=hPat i hi'
   have hpi:=hpm _ (List.getElem_mem hi')
   have hstep : blankL (P.take (i + 1)) t = (blankL (P.take i) t).set P[i] NodeV.nought:=hfo i hi' t
   generalize P[i] = u at *
   refine jU (Ai @g6 (Ai @g5 (Ai @g0 (Ai @hge (Ai @eye_lt_nat (Ai @hi' @hat)))))) fun K hK=>?_
   refine acallk (hwi _ u (by omega) _) ?_
   rintro r s6 ⟨rfl,rfl⟩
   rw [← hstep]
   refine jR hK ?_;clear hK K
   simp only [blockQ,thenQ,if_true,if_false]
   refine hK3 _ _ ?_;clear hK3 K3
   refine jD (Ai @g6 (eye_succM i (by omega))) ?_
   refine ⟨⟨i + 1,by omega,by simp only [upd,Nc,↓reduceIte],by simp only [upd,g5,Nc,↓reduceIte],by simp only [upd,Nc,↓reduceIte],rfl⟩,?_⟩
   simp only [g6,upd,↓reduceIte]
   omega
  ·refine jB (Ai @g6 (Ai @g5 (Ai @eye_lt_nat (decide_eq_false hi')))) ?_
   refine jF ?_
   refine awp_exit ?_
   simp only [thenQ,blockQ,if_true]
   refine hK _ _ ?_;clear hK hK2 K2 K
   obtain rfl : i = P.length:=by omega
   rw [hfull] at g0
   refine jB @g0 ?_
   exact jJ
end Go.Proofs.YtfjlmkifiihgkaaGreatDoor
namespace Go.Proofs.YtfjlmkifiihgkaaGreatDoor
open Go Go.AM Go.Proofs
variable {Γ : Nat→List AV}
theorem refUpdMain_calls (t : List NodeV) (ht : TreeW t) (leaf : Nat) (key : Nat) (h1 : rightT t) (h2 : memI t (leaf : Int)) (h3 : keyR key) (s : AS) :
  ACalls Tryz.prog Γ 63 [treeV t,.v (.int .i64 leaf),.v (.int .u64 key)] s (fun r s'=>r = .tup [treeV (updT t leaf key),.v (.int .i64 0)]∧s' = s):=by
 have hr:=fun s=>refRight20_calls (Γ:=Γ) t ht s
 have hm:=fun s=>refMember_calls (Γ:=Γ) t ht.1 (leaf : Int) s
 have hk:=fun s=>refRight07_calls (Γ:=Γ) key s
 have hlen:=h1.len
 have hlvs:=lvs_le t
 have hleaf:=((memN_iff rfl _).1 h2).1
 have hbl:=fun s=>refBlanked20_calls (Γ:=Γ) t ht h1 leaf hleaf s
 have hat:=node_at (t:=t) (i:=2 * leaf) (by omega)
 have hnl:=(right_small (h1.nd (2 * leaf))).1
 have hlf:=fun s=>refLeafOf20_calls (Γ:=Γ) (nd t (2 * leaf)).name key (by omega) s
 have hbll : (blankT t leaf).length = t.length:=by unfold blankT; rw [blankL_len]
 have hwi:=fun s=>with20_calls (Γ:=Γ) (blankT t leaf) (by rw [hbll]; omega) (by rw [hbll]; omega) (2 * leaf) (by rw [hbll]; omega) (leafN (nd t (2 * leaf)).name key) s
 have hupd : (blankT t leaf).set (2 * leaf) (leafN (nd t (2 * leaf)).name key) = updT t leaf key:=rfl
 rw [hupd] at hwi
 rw [decide_eq_true h1] at hr
 rw [decide_eq_true ((memR_iff h1.1 _).2 h2)] at hm
 rw [decide_eq_true h3.1,decide_eq_true h3.2] at hk
 have hge : (0 : Int)≤((2 * leaf : Nat) : Int):=by omega
 have e2v:=imul2_nat leaf (by omega)
 have hi2 : 2 * leaf < t.length:=by omega
 generalize treeV (updT t leaf key) = U at *
 generalize treeV (blankT t leaf) = B at *
 generalize hLF : (leafN (nd t (2 * leaf)).name key).cells = LF at *
 clear hLF hupd hbll
 unfold treeV at *
 generalize rowC NodeV.cells t = X at *
 generalize nd t (2 * leaf) = N at *
 obtain ⟨nk,nm,ny,npa,nu⟩:=N
 unfold NodeV.cells at hat
 simp only at hlf hnl
 refine acalls_body Tryz.func63 rfl Tryz.ntmps63 Tryz.results63 (by simp) ?_
 unfold bytesV at *
 refine jA ?_
 refine wK fun K hK=>?_
 refine jK (hr _) ?_;rintro s1 rfl
 refine jF ?_
 refine awp_skip ?_
 refine hK _ _ ?_;clear hK K
 refine wK fun K hK=>?_
 refine jK (hm _) ?_;rintro s2 rfl
 refine jF ?_
 refine awp_skip ?_
 refine hK _ _ ?_;clear hK K
 refine wK fun K hK=>?_
 refine jK (hk _) ?_;rintro s3 rfl
 refine jF ?_
 refine awp_skip ?_
 refine hK _ _ ?_;clear hK K
 refine awp_drw_seq T.mixed [2,13,14] (by kernel_rfl) ?_
 intro K hK
 simp only [↓DM,pval,DX,Nz,↓DN,Qa,Qb,Qc,Qd,Qe,Qf,Qg,Qh,reduceCtorEq,↓reduceIte,Na,Nb,Nc,Nk,Nf,Ng,Nh,Za,Zb,Zc,TT,e2v,hge,hi2,eye_lt_nat,hat]
 refine acallk (hbl _) ?_
 rintro r s4 ⟨rfl,rfl⟩
 simp only [↓DM,pval,DX,Nz,↓DN,Qa,Qb,Qc,Qd,Qe,Qf,Qg,Qh,reduceCtorEq,↓reduceIte,Na,Nb,Nc,Nk,Nf,Ng,Nh,Za,Zb,Zc,TT,e2v,hge,hi2,eye_lt_nat,hat]
 refine acallk (hlf _) ?_
 rintro r s5 ⟨rfl,rfl⟩
 simp only [↓DM,pval,DX,Nz,↓DN,Qa,Qb,Qc,Qd,Qe,Qf,Qg,Qh,reduceCtorEq,↓reduceIte,Na,Nb,Nc,Nk,Nf,Ng,Nh,Za,Zb,Zc,TT]
 refine acallk (hwi _) ?_
 rintro r s6 ⟨rfl,rfl⟩
 refine jR hK ?_;clear hK K
 exact jJ
theorem refUpdate20_calls (t : List NodeV) (ht : TreeW t) (leaf : Int) (key : Nat) (s : AS) :
  ACalls Tryz.prog Γ 63 [treeV t,.v (.int .i64 leaf),.v (.int .u64 key)] s (fun r s'=>r = .tup [treeN (updR t leaf key).1,.v (.int .i64 (updR t leaf key).2)]∧s' = s):=by
 have hr:=fun s=>refRight20_calls (Γ:=Γ) t ht s
 have hm:=fun s=>refMember_calls (Γ:=Γ) t ht.1 leaf s
 have hk:=fun s=>refRight07_calls (Γ:=Γ) key s
 by_cases h1 : rightT t
 ·have hmi:=memR_iff h1.1 leaf
  by_cases h2 : memI t leaf
  ·by_cases h3 : keyR key
   ·obtain ⟨l,rfl⟩:=Int.eq_ofNat_of_zero_le h2.1
    have hres : updR t (l : Int) key = (updT t l key,0):=by
     unfold updR
     rw [if_neg (fun h=>h h1),if_neg (fun h=>h h2),if_neg (fun h=>h h3),Int.toNat_natCast]
    rw [hres,treeN_ne]
    ·exact refUpdMain_calls t ht l key h1 h2 h3 s
    ·show (updT t l key).length≠0
     rw [show (updT t l key).length = t.length from putT_len _ _ _]
     obtain ⟨q1,q2⟩:=h1.len
     have:=q2.le
     omega
   ·have hres : updR t leaf key = ([],2):=by
     unfold updR
     rw [if_neg (fun h=>h h1),if_neg (fun h=>h h2),if_pos h3]
    rw [hres]
    rw [decide_eq_true h1] at hr
    rw [decide_eq_true (hmi.2 h2)] at hm
    have hkf : (decide (2≤(key : Int)) && decide ((key : Int)≤2305843009213693949)) = false:=by
     rw [Bool.and_eq_false_iff,decide_eq_false_iff_not,decide_eq_false_iff_not]
     unfold keyR at h3
     omega
    rw [hkf] at hk
    refine acalls_body Tryz.func63 rfl Tryz.ntmps63 Tryz.results63 (by simp) ?_
    unfold treeV at *
    generalize rowC NodeV.cells t = X at *
    refine jA ?_
    refine wK fun K hK=>?_
    refine jK (hr _) ?_;rintro s1 rfl
    refine jF ?_
    refine awp_skip ?_
    refine hK _ _ ?_;clear hK K
    refine wK fun K hK=>?_
    refine jK (hm _) ?_;rintro s2 rfl
    refine jF ?_
    refine awp_skip ?_
    refine hK _ _ ?_;clear hK K
    refine wK fun K hK=>?_
    refine jK (hk _) ?_;rintro s3 rfl
    refine jE ?_
    refine jA ?_
    exact jJ
  ·have hres : updR t leaf key = ([],43):=by
    unfold updR
    rw [if_neg (fun h=>h h1),if_pos h2]
   rw [hres]
   rw [decide_eq_true h1] at hr
   rw [decide_eq_false (fun q=>h2 (hmi.1 q))] at hm
   refine acalls_body Tryz.func63 rfl Tryz.ntmps63 Tryz.results63 (by simp) ?_
   unfold treeV at *
   generalize rowC NodeV.cells t = X at *
   refine jA ?_
   refine wK fun K hK=>?_
   refine jK (hr _) ?_;rintro s1 rfl
   refine jF ?_
   refine awp_skip ?_
   refine hK _ _ ?_;clear hK K
   refine wK fun K hK=>?_
   refine jK (hm _) ?_;rintro s2 rfl
   refine jE ?_
   refine jA ?_
   exact jJ
 ·have hres : updR t leaf key = ([],40):=if_pos h1
  rw [hres]
  rw [decide_eq_false h1] at hr
  refine acalls_body Tryz.func63 rfl Tryz.ntmps63 Tryz.results63 (by simp) ?_
  unfold treeV at *
  generalize rowC NodeV.cells t = X at *
  refine jA ?_
  refine wK fun K hK=>?_
  refine jK (hr _) ?_;rintro s1 rfl
  refine jE ?_
  refine jA ?_
  exact jJ
end Go.Proofs.YtfjlmkifiihgkaaGreatDoor
namespace Go.Proofs.YtfjlmkifiihgkaaGreatDoor
open Go Go.AM Go.Proofs
variable {Γ : Nat→List AV}
theorem refRemMain_calls (t : List NodeV) (ht : TreeW t) (leaf : Nat) (h1 : rightT t) (h2 : memI t (leaf : Int)) (h3 : cntN (memI t) 0 (lvs t)≠1) (s : AS) :
  ACalls Tryz.prog Γ 64 [treeV t,.v (.int .i64 leaf)] s (fun r s'=>∃ X s2,r = .tup [X,.v (.int .i64 0)]∧s' = s2∧Settles Γ s2 X s (treeV (rmT t leaf))):=by
 have hr:=fun s=>refRight20_calls (Γ:=Γ) t ht s
 have hm:=fun s=>refMember_calls (Γ:=Γ) t ht.1 (leaf : Int) s
 have hms:=fun s=>refMembers_calls (Γ:=Γ) t ht s
 have hlen:=h1.len
 have hlvs:=lvs_le t
 have hleaf:=((memN_iff rfl _).1 h2).1
 have hbl:=fun s=>refBlanked20_calls (Γ:=Γ) t ht h1 leaf hleaf s
 have hbll : (blankT t leaf).length = t.length:=by unfold blankT; rw [blankL_len]
 have hwi:=fun s=>with20_calls (Γ:=Γ) (blankT t leaf) (by rw [hbll]; omega) (by rw [hbll]; omega) (2 * leaf) (by rw [hbll]; omega) NodeV.nought s
 have hupd : (blankT t leaf).set (2 * leaf) NodeV.nought = putT t leaf NodeV.nought:=rfl
 rw [hupd] at hwi
 have hn0 : NodeV.nought.cells = [.v (.int .i64 0),.sl 1 0 [] .any,.v (.int .u64 0),.sl 1 0 [] .any,.sl 1 0 [] .any]:=rfl
 rw [hn0] at hwi
 replace hwi:=fun (s : AS)=>ACalls.weaks (args:=[treeV (blankT t leaf),.v (.int .i64 ((2 * leaf : Nat) : Int)),.agg [.v (.int .i64 0),.v (.slice none 0 0),.v (.int .u64 0),.v (.slice none 0 0),.v (.slice none 0 0)]]) (.cons (AV.weak.refl _) (.cons (AV.weak.refl _) (.cons (AV.weak_agg (.cons (AV.weak.refl _) (.cons AV.weak_nil (.cons (AV.weak.refl _) (.cons AV.weak_nil (.cons AV.weak_nil .nil)))))) .nil))) (hwi s)
 rw [decide_eq_true h1] at hr
 rw [decide_eq_true ((memR_iff h1.1 _).2 h2)] at hm
 have hmt : membersT t = memL t (lvs t):=if_pos h1
 have hml:=memL_cntN t (lvs t)
 rw [hmt] at hms
 unfold listV at hms
 generalize rowC ListedV.cells (memL t (lvs t)) = ML at *
 generalize (memL t (lvs t)).length = mn at *
 have hgood:=putT_good h1.good.1 hleaf nought_right (.inl rfl)
 have hrm : rmT t leaf = shrT 6 (putT t leaf NodeV.nought):=rfl
 rw [hrm]
 have hput1:=putT_len t leaf NodeV.nought
 generalize putT t leaf NodeV.nought = B at *
 have e2v:=imul2_nat leaf (by omega)
 refine acalls_body Tryz.func64 rfl Tryz.ntmps64 Tryz.results64 (by simp) ?_
 refine jA ?_
 refine wK fun K hK=>?_
 refine jK (hr _) ?_;rintro s1 rfl
 refine jF ?_
 refine awp_skip ?_
 refine hK _ _ ?_;clear hK K
 refine wK fun K hK=>?_
 refine jK (hm _) ?_;rintro s2 rfl
 refine jF ?_
 refine awp_skip ?_
 refine hK _ _ ?_;clear hK K
 refine wK fun K hK=>?_
 refine jQ fun K hK=>?_
 refine acallk (hms _) ?_
 rintro r s3 ⟨rfl,rfl⟩
 refine jV (notI (show (mn : Int)≠1 by omega)) hK ?_;clear hK K
 refine jF ?_
 refine awp_skip ?_
 refine hK _ _ ?_;clear hK K
 refine jS @e2v fun K hK=>?_
 refine acallk (hbl _) ?_
 rintro r s4 ⟨rfl,rfl⟩
 simp only [↓DM,pval,DX,Nz,↓DN,Qa,Qb,Qc,Qd,Qe,Qf,Qg,Qh,reduceCtorEq,↓reduceIte,Na,Nb,Nc,Nk,Nf,Ng,Nh,Za,Zb,Zc,TT,e2v]
 refine acallk (hwi _) ?_
 rintro r s5 ⟨rfl,rfl⟩
 refine jR hK ?_;clear hK K
 obtain ⟨m0,hm0,hL0⟩:=hlen.2.pow
 rw [hL0] at hgood
 refine wK fun K hK=>?_
 refine awp_block ?_
 refine awp_loop (fun E s2=>∃ (m f : Nat) (u : List NodeV) (X : AV),m≤f∧m≤5∧E 0 = X∧mlen X = u.length∧Settles Γ s2 X s5 (treeV u)∧goodL (2 ^ m) u∧shrT 6 B = shrT f u)
  (fun E _=>mlen (E 0)) ?_ ?_
 ·exact ⟨m0,6,B,treeV B,by omega,hm0,by simp only [upd,Nc,↓reduceIte],rfl,Settles.refl _,hgood,rfl⟩
 ·rintro E1 s2 ⟨m,f,u,X,hmf,hm5,g0,hX,hS,hg,hB⟩ -
  have hmeas : mlen (E1 0) = u.length:=by rw [g0]; exact hX
  rw [hmeas]
  refine awp_settle (d:=0) (by decide +kernel) g0 hS ?_
  obtain ⟨E2,hE2⟩ : ∃ E2,E2 = upd E1 0 (treeV u):=⟨_,rfl⟩
  rw [← hE2]
  have g0' : E2 0 = treeV u:=by rw [hE2]; exact upd_same _ _ _
  clear g0 hS hX hmeas hE2 s2
  have hul:=hg.2.1
  have hp5:=pow_le5 hm5
  have hlv:=hg.lvs
  have hlc:=fun s=>refLeaves_calls (Γ:=Γ) u (by omega) s
  rw [hlv] at hlc
  refine wK fun K2 hK2=>?_
  have hfin : ∀ (E : Env),E 0 = treeV u→shrT 6 B = u→K E s5:=by
   intro E g0 hBu
   refine hK _ _ ?_;clear hK hK2 K2 K
   rw [hBu]
   refine jB @g0 ?_
   refine jI ?_
   exact ⟨_,_,AV.weak.refl _,AS.le.refl _,_,_,rfl,rfl,Settles.refl _⟩
  clear hK
  cases m with
  | zero =>
   have hend : shrT f u = u:=by
    cases f with
    | zero=>rfl
    | succ f=>simp only [shrT,hlv]; rw [if_neg (fun q=>by have:=q.1; simp at this)]
   refine jS @g0' fun K hK=>?_
   refine acallk (hlc _) ?_
   rintro r s6 ⟨rfl,rfl⟩
   refine jV (decide_eq_false (show ¬ (1 : Int) < ((2 ^ 0 : Nat) : Int) by decide)) hK ?_;clear hK K
   refine jF ?_
   refine awp_exit ?_
   simp only [thenQ,blockQ,if_true]
   refine hfin _ (by simp only [upd,g0',Nc,↓reduceIte]) (by rw [hB,hend])
  | succ m =>
   have hpow : 2 ^ (m + 1) = 2 * 2 ^ m:=by rw [Nat.pow_succ]; omega
   have hpm:=Nat.two_pow_pos m
   have hmem:=fun s=>refCount_calls (Γ:=Γ) u (by omega) (2 ^ (m + 1) / 2) (2 ^ (m + 1) - 2 ^ (m + 1) / 2) (by omega) s
   rw [show 2 ^ (m + 1) / 2 + (2 ^ (m + 1) - 2 ^ (m + 1) / 2) = 2 ^ (m + 1) by omega,cntN_congr (memR_iff (t:=u) (by omega))] at hmem
   have hcg:=fun h0=>cut_good (m:=m) (t:=u) hg h0
   have hq : 2 ^ (m + 1) / 2 = 2 ^ m:=by omega
   have eq2:=iquo_two (2 ^ (m + 1)) (by omega)
   have es1 : isub .i64 ((2 ^ (m + 1) : Nat) : Int) 1 = ((2 ^ (m + 1) : Nat) : Int) - 1:=isub_i64 (by omega)
   obtain ⟨f,rfl⟩ : ∃ f',f = f' + 1:=⟨f - 1,by omega⟩
   have hsh : shrT (f + 1) u = if 1 < 2 ^ (m + 1)∧cntN (memI u) (2 ^ (m + 1) / 2) (2 ^ (m + 1) - 2 ^ (m + 1) / 2) = 0 then shrT f (cutT u) else u:=by
    simp only [shrT,hlv]
   rw [hsh] at hB
   have hgt : decide ((1 : Int) < ((2 ^ (m + 1) : Nat) : Int)) = true:=decide_eq_true (by omega)
   by_cases h0 : cntN (memI u) (2 ^ (m + 1) / 2) (2 ^ (m + 1) - 2 ^ (m + 1) / 2) = 0
   ·rw [if_pos ⟨by omega,h0⟩] at hB
    replace hcg:=hcg h0
    refine jS @g0' fun K hK=>?_
    refine acallk (hlc _) ?_
    rintro r s6 ⟨rfl,rfl⟩
    simp only [↓DM,pval,DX,Nz,↓DN,Qa,Qb,Qc,Qd,Qe,Qf,Qg,Qh,reduceCtorEq,↓reduceIte,Na,Nb,Nc,Nk,Nf,Ng,Nh,Za,Zb,Zc,TT,g0',hgt]
    refine acallk (hlc _) ?_
    rintro r s6 ⟨rfl,rfl⟩
    simp only [↓DM,pval,DX,Nz,↓DN,Qa,Qb,Qc,Qd,Qe,Qf,Qg,Qh,reduceCtorEq,↓reduceIte,Na,Nb,Nc,Nk,Nf,Ng,Nh,Za,Zb,Zc,TT,g0',hgt,eq2]
    refine acallk (hlc _) ?_
    rintro r s6 ⟨rfl,rfl⟩
    simp only [↓DM,pval,DX,Nz,↓DN,Qa,Qb,Qc,Qd,Qe,Qf,Qg,Qh,reduceCtorEq,↓reduceIte,Na,Nb,Nc,Nk,Nf,Ng,Nh,Za,Zb,Zc,TT,g0',hgt,eq2,es1]
    refine acallk (hmem _) ?_
    rintro r s6 ⟨rfl,rfl⟩
    refine jV (nat0 h0) hK ?_;clear hK K
    refine jE ?_
    refine awp_skip ?_
    refine hK2 _ _ ?_;clear hK2 K2
    refine awp_block ?_
    have hcut : cutT u = u.take (2 ^ (m + 1) - 1):=by unfold cutT; rw [hlv,hq,hpow]
    have hcl : (u.take (2 ^ (m + 1) - 1)).length = 2 ^ (m + 1) - 1:=by rw [List.length_take]; omega
    have htk:=row_takeC (c:=NodeV.cells) (k:=5) (fun _=>rfl) (l:=u) (n:=2 ^ (m + 1) - 1) (by omega)
    have hone:=row_ones (u.take (2 ^ (m + 1) - 1))
    have hsl : ((2 ^ (m + 1) : Nat) : Int) - 1 = ((2 ^ (m + 1) - 1 : Nat) : Int):=by omega
    have hge : (0 : Int)≤((2 ^ (m + 1) - 1 : Nat) : Int):=by omega
    have hle : ((2 ^ (m + 1) - 1 : Nat) : Int)≤(u.length : Int):=by omega
    have hx63 : 2 ^ (m + 1) - 1≤63:=by omega
    have hx0 : 2 ^ (m + 1) - 1≠0:=by omega
    have hlen2 : (cutT u).length < u.length:=by rw [hcut,hcl]; omega
    generalize hP : 2 ^ (m + 1) - 1 = p at *
    have g0u : E2 0 = .sl 5 u.length (rowC NodeV.cells u) .any:=g0'
    have hlc' : ∀ s,ACalls Tryz.prog Γ 65 [.sl 5 u.length (rowC NodeV.cells u) .any] s (fun r s'=>r = .v (.int .i64 ((2 ^ (m + 1) : Nat) : Int))∧s' = s):=hlc
    generalize hY : rowC NodeV.cells (u.take p) = Y at *
    generalize hXX : rowC NodeV.cells u = XX at *
    refine awp_region_at6 rfl (by simp) ?_
    intro ops
    simp only [↓DM,pval,DX,Nz,↓DN,Qa,Qb,Qc,Qd,Qe,Qf,Qg,Qh,reduceCtorEq,↓reduceIte,Na,Nb,Nc,Nk,Nf,Ng,Nh,Za,Zb,Zc,TT,g0u]
    refine acallk (hlc' _) ?_
    rintro r s6 ⟨rfl,rfl⟩
    simp only [↓DM,pval,DX,Nz,↓DN,Qa,Qb,Qc,Qd,Qe,Qf,Qg,Qh,reduceCtorEq,↓reduceIte,Na,Nb,Nc,Nk,Nf,Ng,Nh,Za,Zb,Zc,TT,g0u,es1,hsl,hge,hle,Nat.sub_zero,htk]
    refine ⟨_,fun G a w hr=>append_own_res (n:=0) (m:=p) (cs:=[]) (ds:=Y) (e:=69) rfl Tryz.underlying26 (by simp only [↓DN,Qa,Qb,Qc,Qd,Qe,Qf,Qg,Qh,reduceCtorEq,↓reduceIte,Na,Nb,Nc,Nk,Nf,Ng,Nh,Za,Zb,Zc,TT]; try rfl) T.z69 (by rw [T.c69]; decide) (by rw [T.c69]; rfl) (by rw [T.c69]; simp only [↓DN,Qa,Qb,Qc,Qd,Qe,Qf,Qg,Qh,reduceCtorEq,↓reduceIte,Na,Nb,Nc,Nk,Nf,Ng,Nh,Za,Zb,Zc,TT,asrc,aeval,upd,Nc,↓reduceIte]) hx0 (by rw [T.b69]; omega) (by omega) hone (by rw [T.c69]; exact .inl ⟨rfl,rfl,.inr (.inr rfl)⟩) hr.eval hr.st,?_⟩
    rw [T.c69]
    rintro r s1 ⟨ob,cap,rest,rfl,hcap,h63,hrest,hob,rfl⟩
    simp only [↓DM,pval,DX,Nz,↓DN,Qa,Qb,Qc,Qd,Qe,Qf,Qg,Qh,reduceCtorEq,↓reduceIte,Na,Nb,Nc,Nk,Nf,Ng,Nh,Za,Zb,Zc,TT]
    rw [Nat.zero_add] at *
    have hob : s6.objs ob = none:=by
     rcases hob with h | ⟨_,h⟩
     ·exact h
     ·simp [aeval,upd] at h
    have hset:=Settles.tree (Γ:=Γ) (t:=u.take p) (cap:=cap) (rest:=rest) hob
    rw [hcl,hY,← hcut] at hset
    refine ⟨⟨m,f,cutT u,_,by omega,by omega,by simp only [upd,Nc,↓reduceIte],by rw [hcut,hcl]; rfl,hset,hcg,hB⟩,?_⟩
    show p < u.length
    rw [hcut,hcl] at hlen2
    exact hlen2
   ·rw [if_neg (fun q=>h0 q.2)] at hB
    refine jS @g0' fun K hK=>?_
    refine acallk (hlc _) ?_
    rintro r s6 ⟨rfl,rfl⟩
    simp only [↓DM,pval,DX,Nz,↓DN,Qa,Qb,Qc,Qd,Qe,Qf,Qg,Qh,reduceCtorEq,↓reduceIte,Na,Nb,Nc,Nk,Nf,Ng,Nh,Za,Zb,Zc,TT,g0',hgt]
    refine acallk (hlc _) ?_
    rintro r s6 ⟨rfl,rfl⟩
    simp only [↓DM,pval,DX,Nz,↓DN,Qa,Qb,Qc,Qd,Qe,Qf,Qg,Qh,reduceCtorEq,↓reduceIte,Na,Nb,Nc,Nk,Nf,Ng,Nh,Za,Zb,Zc,TT,g0',hgt,eq2]
    refine acallk (hlc _) ?_
    rintro r s6 ⟨rfl,rfl⟩
    simp only [↓DM,pval,DX,Nz,↓DN,Qa,Qb,Qc,Qd,Qe,Qf,Qg,Qh,reduceCtorEq,↓reduceIte,Na,Nb,Nc,Nk,Nf,Ng,Nh,Za,Zb,Zc,TT,g0',hgt,eq2,es1]
    refine acallk (hmem _) ?_
    rintro r s6 ⟨rfl,rfl⟩
    refine jV (nat0F h0) hK ?_;clear hK K
    refine jF ?_
    refine awp_exit ?_
    simp only [thenQ,blockQ,if_true]
    refine hfin _ (by simp only [upd,g0',Nc,↓reduceIte]) hB
theorem refRemove20_calls (t : List NodeV) (ht : TreeW t) (leaf : Int) (s : AS) :
  ACalls Tryz.prog Γ 64 [treeV t,.v (.int .i64 leaf)] s (fun r s'=>r = .tup [treeN (remR t leaf).1,.v (.int .i64 (remR t leaf).2)]∧s' = s):=by
 have hr:=fun s=>refRight20_calls (Γ:=Γ) t ht s
 have hm:=fun s=>refMember_calls (Γ:=Γ) t ht.1 leaf s
 by_cases h1 : rightT t
 ·have hmi:=memR_iff h1.1 leaf
  by_cases h2 : memI t leaf
  ·by_cases h3 : cntN (memI t) 0 (lvs t) = 1
   ·have hms:=fun s=>refMembers_calls (Γ:=Γ) t ht s
    have hres : remR t leaf = ([],40):=by
     unfold remR
     rw [if_neg (fun h=>h h1),if_neg (fun h=>h h2),if_pos h3]
    rw [hres]
    rw [decide_eq_true h1] at hr
    rw [decide_eq_true (hmi.2 h2)] at hm
    have hmt : membersT t = memL t (lvs t):=if_pos h1
    have hml:=memL_cntN t (lvs t)
    rw [hmt] at hms
    unfold listV at hms
    rw [hml,h3] at hms
    refine acalls_body Tryz.func64 rfl Tryz.ntmps64 Tryz.results64 (by simp) ?_
    unfold treeV at *
    generalize rowC ListedV.cells (memL t (lvs t)) = ML at *
    generalize rowC NodeV.cells t = X at *
    refine jA ?_
    refine wK fun K hK=>?_
    refine jK (hr _) ?_;rintro s1 rfl
    refine jF ?_
    refine awp_skip ?_
    refine hK _ _ ?_;clear hK K
    refine wK fun K hK=>?_
    refine jK (hm _) ?_;rintro s2 rfl
    refine jF ?_
    refine awp_skip ?_
    refine hK _ _ ?_;clear hK K
    refine wK fun K hK=>?_
    refine jQ fun K hK=>?_
    refine acallk (hms _) ?_
    rintro r s3 ⟨rfl,rfl⟩
    refine jV (show (((1 : Nat) : Int) == 1) = true from rfl) hK ?_;clear hK K
    refine jE ?_
    refine jA ?_
    exact jJ
   ·obtain ⟨l,rfl⟩:=Int.eq_ofNat_of_zero_le h2.1
    have hres : remR t (l : Int) = (rmT t l,0):=by
     unfold remR
     rw [if_neg (fun h=>h h1),if_neg (fun h=>h h2),if_neg h3,Int.toNat_natCast]
    rw [hres,treeN_ne]
    ·refine ACalls.settle (refRemMain_calls t ht l h1 h2 h3 s) ?_
     rintro r s1 ⟨X,s2,rfl,rfl,hS⟩
     exact ⟨s,_,Settles.tupL _ hS,rfl,rfl⟩
    ·show (rmT t l).length≠0
     have hR:=rmT_right h1 ((memN_iff rfl _).1 h2).1
     obtain ⟨q1,q2⟩:=hR.len
     have:=q2.le
     omega
  ·have hres : remR t leaf = ([],43):=by
    unfold remR
    rw [if_neg (fun h=>h h1),if_pos h2]
   rw [hres]
   rw [decide_eq_true h1] at hr
   rw [decide_eq_false (fun q=>h2 (hmi.1 q))] at hm
   refine acalls_body Tryz.func64 rfl Tryz.ntmps64 Tryz.results64 (by simp) ?_
   unfold treeV at *
   generalize rowC NodeV.cells t = X at *
   refine jA ?_
   refine wK fun K hK=>?_
   refine jK (hr _) ?_;rintro s1 rfl
   refine jF ?_
   refine awp_skip ?_
   refine hK _ _ ?_;clear hK K
   refine wK fun K hK=>?_
   refine jK (hm _) ?_;rintro s2 rfl
   refine jE ?_
   refine jA ?_
   exact jJ
 ·have hres : remR t leaf = ([],40):=if_pos h1
  rw [hres]
  rw [decide_eq_false h1] at hr
  refine acalls_body Tryz.func64 rfl Tryz.ntmps64 Tryz.results64 (by simp) ?_
  unfold treeV at *
  generalize rowC NodeV.cells t = X at *
  refine jA ?_
  refine wK fun K hK=>?_
  refine jK (hr _) ?_;rintro s1 rfl
  refine jE ?_
  refine jA ?_
  exact jJ
end Go.Proofs.YtfjlmkifiihgkaaGreatDoor
namespace Go.AM
open Go Go.RowKit
def insRk (u : List Int) (v k : Nat) : List Int:=((List.range k).filter fun j=>decide (j = v∨(j : Int) ∈ u)).map fun (j : Nat)=>(j : Int)
theorem insRk_succ (u : List Int) (v k : Nat) : insRk u v (k + 1) = insRk u v k ++ if k = v∨(k : Int) ∈ u then [(k : Int)] else []:=by
  unfold insRk
  rw [List.range_succ,List.filter_append,List.map_append]
  congr 1
  by_cases h : k = v∨(k : Int) ∈ u
  · rw [if_pos h]; simp [h]
  · rw [if_neg h]; simp [h]
theorem insRk_len (u : List Int) (v : Nat) : ∀ k,(insRk u v k).length≤k
  | 0=>by simp [insRk]
  | k + 1=>by
    have:=insRk_len u v k
    rw [insRk_succ,List.length_append]
    split <;> simp <;> omega
theorem insRk_all {u : List Int} {v : Nat} (h : Rising u) (hv : (v : Int) ∉ u) (h32 : v < 32) : insRk u v 32 = insU u (v : Int):=insR_eq h hv h32
theorem free_not {t : List NodeV} (h : rightT t) {i : Nat} : ((freeT t : Nat) : Int) ∉ (nd t i).unm:=by
  intro hm
  obtain ⟨⟨hL,hlen,h1,h2⟩,h3⟩:=h.good
  by_cases e : i < 2 * lvs t - 1
  · have:=((h1 i e).2.2 _ hm).2.2.2.2
    rw [Int.toNat_natCast] at this
    exact free_kind hL hlen this
  · rw [nd_out (by omega)] at hm
    cases hm
theorem nodes_weak : ∀ k : Nat,AVs.weak (List.replicate k zN).flatten (rowC NodeV.cells (List.replicate k NodeV.nought))
  | 0=>.refl _
  | k + 1=>by
    have e1 : (List.replicate (k + 1) zN).flatten = zN ++ (List.replicate k zN).flatten:=by rw [List.replicate_succ,List.flatten_cons]
    have e2 : rowC NodeV.cells (List.replicate (k + 1) NodeV.nought) = NodeV.nought.cells ++ rowC NodeV.cells (List.replicate k NodeV.nought):=by rw [List.replicate_succ]; rfl
    rw [e1,e2]
    exact AVs.weak.append (.cons (AV.weak.refl _) (.cons AV.weak_nil (.cons (AV.weak.refl _) (.cons AV.weak_nil (.cons AV.weak_nil .nil))))) (nodes_weak k)
theorem Settles.tells {Γ : Nat→List AV} {s s' : AS} (x : AV) (h : AS.tells Γ s s') : Settles Γ s x s' x:=fun G w _ hs hv=>⟨G,.refl G,h G w hs,hv⟩
theorem Settles.more {Γ : Nat→List AV} {s : AS} {ob ob' cap cap' m k : Nat} {A rest' : List AV} {t : List NodeV} (h : s.objs ob = none) (h' : (s.set ob A).objs ob' = none∨∃ c0,AV.osl ob 0 5 m cap = .osl ob' 0 5 m c0) :
    Settles Γ ((s.set ob A).set ob' (rowC NodeV.cells t ++ zrow (k * 5) zN ++ rest')) (.osl ob' 0 5 (t.length + k) cap') s (treeV (t ++ List.replicate k NodeV.nought)):=by
  have e : rowC NodeV.cells (t ++ List.replicate k NodeV.nought) = rowC NodeV.cells t ++ rowC NodeV.cells (List.replicate k NodeV.nought):=by simp only [rowC,List.map_append,List.flatten_append]
  have hl : (t ++ List.replicate k NodeV.nought).length = t.length + k:=by simp
  have hw : AVs.weak (rowC NodeV.cells t ++ zrow (k * 5) zN ++ rest') (rowC NodeV.cells (t ++ List.replicate k NodeV.nought) ++ rest'):=by
    rw [e,zrow_zN]
    exact AVs.weak.append (AVs.weak.append (.refl _) (nodes_weak k)) (.refl _)
  refine (Settles.tells _ (AS.tells_set hw)).trans ?_
  have h2:=Settles.outer (Γ:=Γ) (sz:=5) (n:=t.length + k) (cap:=cap') (AS.set_objs_same (s.set ob A) ob' (rowC NodeV.cells (t ++ List.replicate k NodeV.nought) ++ rest')) (by rw [row_len cells_len,hl])
  have h3 : treeV (t ++ List.replicate k NodeV.nought) = .sl 5 (t.length + k) (rowC NodeV.cells (t ++ List.replicate k NodeV.nought)) .any:=by unfold treeV; rw [hl]
  rw [h3]
  refine h2.trans (Settles.le _ ⟨fun o cs hc=>?_,fun t e he=>he⟩)
  have hne : o≠ob:=by rintro rfl; rw [h] at hc; cases hc
  have hne' : o≠ob':=by
    rintro rfl
    rcases h' with h' | ⟨c0,h'⟩
    · rw [AS.set_objs_ne _ hne,hc] at h'; cases h'
    · injection h' with q; exact hne q.symm
  rw [AS.drop_objs,upd_ne _ _ hne',AS.set_objs_ne _ hne',AS.set_objs_ne _ hne]
  exact hc
end Go.AM
namespace Go.Proofs.YtfjlmkifiihgkaaGreatDoor
open Go Go.AM Go.Proofs
variable {Γ : Nat→List AV}
theorem refAddMain_calls (t : List NodeV) (ht : TreeW t) (name : List UInt8) (key : Nat) (hn : name.length≤2 ^ 45) (h1 : rightT t) (h2 : (leafN name key).right) (h3 : ¬ 0≤namedI t name 0) (s : AS) :
  ACalls Tryz.prog Γ 61 [treeV t,.v (.string ⟨name.toArray⟩),.v (.int .u64 key)] s (fun r s'=>r = .tup [treeN (addR t name key).1,.v (.int .i64 (addR t name key).2.1),.v (.int .i64 (addR t name key).2.2)]∧s.le s'):=by
 have hres : addR t name key = if freeT t = 32 then ([],0,21) else (addAt t (freeT t) (leafN name key),freeT t,0):=by
  unfold addR
  rw [if_neg (fun h=>h h1),if_neg (fun h=>h h2),if_neg h3]
 rw [hres]
 have hc:=fun s=>refLeafOf20_calls (Γ:=Γ) name key hn s
 have hr:=fun s=>refRight20_calls (Γ:=Γ) t ht s
 have hlr:=fun s=>refRight19_calls (Γ:=Γ) (leafN name key) (by simp [leafN]) s
 have hnm:=fun s=>refNamed_calls (Γ:=Γ) t ht.1 name s
 have hme:=fun i s=>refMember_calls (Γ:=Γ) t ht.1 i s
 have hlv:=fun s=>refLeaves_calls (Γ:=Γ) t ht.1 s
 obtain ⟨f1,f2,f3⟩:=freeT_spec t
 have hlen:=h1.len
 have hlvs:=lvs_le t
 have hnr : namedR t name < 0:=by
  rcases namedR_spec (t:=t) name with ⟨j,a1,a2,a3,a4,_⟩ | ⟨a,_⟩
  ·exfalso
   have hj : j < lvs t:=by have:=h1.hlf; omega
   exact Go.AM.named_none h3 hlen.2 hlen.1 hj ((memN_iff rfl _).1 ((memR_iff h1.1 _).1 a2)).2 a3
  ·omega
 generalize namedR t name = nr at *
 rw [decide_eq_true h1] at hr
 rw [decide_eq_true h2] at hlr
 have hmT : ∀ i : Nat,i < freeT t→decide (memR t (i : Int)) = true:=fun i hi=>decide_eq_true ((memR_iff h1.1 _).2 (f3 i hi))
 have hmF : decide (memR t ((freeT t : Nat) : Int)) = false:=decide_eq_false (fun q=>f2 ((memR_iff h1.1 _).1 q))
 have hcells : (leafN name key).cells = [.v (.int .i64 1),bytesV name .any,.v (.int .u64 key),bytesV [] .any,intsV [] .any]:=rfl
 rw [hcells] at hc hlr
 refine acalls_body Tryz.func61 rfl Tryz.ntmps61 Tryz.results61 (by simp) ?_
 unfold bytesV intsV at *
 refine jA ?_
 refine wK fun K hK=>?_
 refine jK (hr _) ?_;rintro s1 rfl
 refine jF ?_
 refine awp_skip ?_
 refine hK _ _ ?_;clear hK K
 refine awp_reg_frz 9 (by decide) ?_
 intro K hK
 simp only [↓DM,pval,DX,Nz,↓DN,Qa,Qb,Qc,Qd,Qe,Qf,Qg,Qh,reduceCtorEq,↓reduceIte,Na,Nb,Nc,Nk,Nf,Ng,Nh,Za,Zb,Zc,TT]
 refine acallk (hc _) ?_
 rintro r s2 ⟨rfl,rfl⟩
 simp only [↓DM,pval,DX,Nz,↓DN,Qa,Qb,Qc,Qd,Qe,Qf,Qg,Qh,reduceCtorEq,↓reduceIte,Na,Nb,Nc,Nk,Nf,Ng,Nh,Za,Zb,Zc,TT]
 intro o ho
 refine hK _ _ o _ (by simp only [upd,Nc,↓reduceIte]) ho ?_
 clear hK K ho
 refine wK fun K hK=>?_
 refine jK (hlr _) ?_;rintro s3 rfl
 refine jF ?_
 refine awp_skip ?_
 refine hK _ _ ?_;clear hK K
 refine wK fun K hK=>?_
 refine jQ fun K hK=>?_
 refine acallk (hnm _) ?_
 rintro r s4 ⟨rfl,rfl⟩
 refine jV (decide_eq_false (show ¬ (0 : Int)≤nr by omega)) hK ?_;clear hK K
 refine jF ?_
 refine awp_skip ?_
 refine hK _ _ ?_;clear hK K
 refine jA ?_
 refine wK fun K hK=>?_
 refine awp_block ?_
 refine awp_loop (fun E s2=>∃ i : Nat,i≤freeT t∧E 10 = .v (.int .i64 i)∧E 0 = treeV t∧E 9 = .rop [.v (.int .i64 1),.sl 1 name.length (name.map byteV) .any,.v (.int .u64 key),.sl 1 0 [] .any,.sl 1 0 [] .any]∧s2 = s4)
  (fun E _=>match E 10 with | .v (.int _ i)=>freeT t - i.toNat | _=>0) ?_ ?_
 ·exact ⟨0,Nat.zero_le _,by simp only [upd,Nc,↓reduceIte]; rfl,by simp only [upd,initE,List.getD_cons_zero,List.getD_cons_succ,Nc,↓reduceIte],by simp only [upd,Nc,↓reduceIte],rfl⟩
 ·rintro E1 s6 ⟨i,hi,g10,g0,g9,rfl⟩ -
  by_cases hi' : i < freeT t
  ·refine wK fun K2 hK2=>?_
   refine jS (Ai @g10 @g0) fun K hK=>?_
   refine acallk (hme _ _) ?_
   rintro r s7 ⟨rfl,rfl⟩
   rw [hmT i hi']
   refine jR hK ?_;clear hK K
   refine jE ?_
   refine awp_skip ?_
   refine hK2 _ _ ?_;clear hK2 K2
   refine awp_block ?_
   refine jD (Ai @g10 (eye_succM i (by omega))) ?_
   refine ⟨⟨i + 1,by omega,by simp only [upd,Nc,↓reduceIte],by simp only [upd,g0,Nc,↓reduceIte],by simp only [upd,g9,Nc,↓reduceIte],rfl⟩,?_⟩
   simp only [g10,upd,↓reduceIte]
   omega
  ·obtain rfl : i = freeT t:=by omega
   refine wK fun K2 hK2=>?_
   refine jS (Ai @g10 @g0) fun K hK=>?_
   refine acallk (hme _ _) ?_
   rintro r s7 ⟨rfl,rfl⟩
   rw [hmF]
   refine jR hK ?_;clear hK K
   refine jF ?_
   refine awp_exit ?_
   simp only [thenQ,blockQ,if_true]
   refine hK _ _ ?_;clear hK hK2 K2 K
   refine wK fun K hK=>?_
   have hmain : ∀ (E : Env) (s8 : AS) (X : AV),freeT t≠32→E 10 = .v (.int .i64 (freeT t))→E 0 = X→Settles Γ s8 X s7 (treeV (moreT t (freeT t)))→E 9 = .rop [.v (.int .i64 1),.sl 1 name.length (name.map byteV) .any,.v (.int .u64 key),.sl 1 0 [] .any,.sl 1 0 [] .any]→K E s8:=by
    clear g10 g0 g9 hcells hmF hmT hnr hlr hr hnm hc hres
    intro E s8 X h32 g10 g0 hS g9
    refine hK _ _ ?_;clear hK K
    refine awp_settle (d:=0) (by decide +kernel) g0 hS ?_
    obtain ⟨E2,hE2⟩ : ∃ E2,E2 = upd E 0 (treeV (moreT t (freeT t))):=⟨_,rfl⟩
    rw [← hE2]
    replace g0 : E2 0 = treeV (moreT t (freeT t)):=by rw [hE2]; exact upd_same _ _ _
    replace g10 : E2 10 = .v (.int .i64 (freeT t)):=by rw [hE2,upd_ne _ _ (by decide)]; exact g10
    replace g9 : E2 9 = .rop [.v (.int .i64 1),.sl 1 name.length (name.map byteV) .any,.v (.int .u64 key),.sl 1 0 [] .any,.sl 1 0 [] .any]:=by rw [hE2,upd_ne _ _ (by decide)]; exact g9
    clear hS hE2 s8 X E
    obtain ⟨L',q1,q2,q3,q4,q5,q6⟩:=moreT_shape hlen.2 hlen.1 f1 h32
    have hb:=q2.le
    have hadd : addAt t (freeT t) (leafN name key) = (pathL (freeT t) L').foldl (putU (freeT t)) ((moreT t (freeT t)).set (2 * freeT t) (leafN name key)):=by unfold addAt; rw [q5]
    have hps:=fun (i : Nat) (hi : i < (pathL (freeT t) L').length)=>puts_at q2 q4 (leafN name key) (t:=t) q3 hi
    have hpm:=fun x hx=>path_mem q2 q4 x hx
    have hpl:=path_len q2 q4
    have hpc:=fun s=>refPath18_calls (Γ:=Γ) (freeT t) L' q2 q4 s
    have hwi:=fun s=>with20_calls (Γ:=Γ) (moreT t (freeT t)) (by omega) (by omega) (2 * freeT t) (by omega) (leafN name key) s
    have hc0 : (leafN name key).cells = [.v (.int .i64 1),.sl 1 name.length (name.map byteV) .any,.v (.int .u64 key),.sl 1 0 [] .any,.sl 1 0 [] .any]:=rfl
    rw [hc0] at hwi
    have e2v:=imul2_nat (freeT t) (by omega)
    have hne : treeN (addAt t (freeT t) (leafN name key)) = treeV (addAt t (freeT t) (leafN name key)):=treeN_ne (by rw [addAt_len,q3]; omega)
    rw [if_neg h32]
    simp only
    rw [hne,hadd]
    have hMl : ((moreT t (freeT t)).set (2 * freeT t) (leafN name key)).length = 2 * L' - 1:=by rw [List.length_set,q3]
    have hputs:=fun (l : List Nat)=>putsU_len (freeT t) l ((moreT t (freeT t)).set (2 * freeT t) (leafN name key))
    have hlvM : ∀ s,ACalls Tryz.prog Γ 65 [treeV ((moreT t (freeT t)).set (2 * freeT t) (leafN name key))] s (fun r s'=>r = .v (.int .i64 L')∧s' = s):=by
     intro s
     have:=refLeaves_calls (Γ:=Γ) ((moreT t (freeT t)).set (2 * freeT t) (leafN name key)) (by omega) s
     rwa [lvs_of q2 hMl] at this
    generalize treeV (moreT t (freeT t)) = M0 at *
    generalize (moreT t (freeT t)).set (2 * freeT t) (leafN name key) = M at *
    refine jS (Ai @g9 (Ai @g10 (Ai @g0 @e2v))) fun K hK=>?_
    refine acallk (hwi _) ?_
    rintro r s8 ⟨rfl,rfl⟩
    refine jR hK ?_;clear hK K
    refine jS @g10 fun K hK=>?_
    refine acallk (hlvM _) ?_
    rintro r s9 ⟨rfl,rfl⟩
    simp only [↓DM,pval,DX,Nz,↓DN,Qa,Qb,Qc,Qd,Qe,Qf,Qg,Qh,reduceCtorEq,↓reduceIte,Na,Nb,Nc,Nk,Nf,Ng,Nh,Za,Zb,Zc,TT,g10]
    refine acallk (hpc _) ?_
    rintro r s10 ⟨rfl,rfl⟩
    unfold intsV
    have hPn:=natsI_len (pathL (freeT t) L')
    have hPat : ∀ (i : Nat) (hi : i < (pathL (freeT t) L').length),List.take 1 (List.drop i ((natsI (pathL (freeT t) L')).map intC)) = [.v (.int .i64 (((pathL (freeT t) L')[i] : Nat) : Int))]:=by
     intro i hi
     rw [eat_int (by rw [natsI_len]; exact hi)]
     simp [natsI]
    have hfo:=fun (i : Nat) (hi : i < (pathL (freeT t) L').length) (M : List NodeV)=>foldl_take_succ (putU (freeT t)) M hi
    have hfull : (pathL (freeT t) L').take (pathL (freeT t) L').length = pathL (freeT t) L':=List.take_length
    generalize natsI (pathL (freeT t) L') = PI at *
    generalize pathL (freeT t) L' = P at *
    rw [hPn]
    clear hpc hlvM hwi hne hadd hlv hme
    refine jR hK ?_;clear hK K
    refine wK fun K hK=>?_
    refine jA ?_
    refine awp_block ?_
    refine awp_loop (fun E s2=>∃ (i : Nat),i≤P.length∧E 12 = .v (.int .i64 i)∧E 11 = .sl 1 P.length (PI.map intC) .any∧E 10 = .v (.int .i64 (freeT t))∧E 0 = treeV ((P.take i).foldl (putU (freeT t)) M)∧s10.le s2)
     (fun E _=>match E 12 with | .v (.int _ i)=>P.length - i.toNat | _=>0) ?_ ?_
    ·exact ⟨0,Nat.zero_le _,by simp only [upd,Nc,↓reduceIte]; rfl,by simp only [upd,Nc,↓reduceIte],by simp only [upd,g10,Nc,↓reduceIte],by simp only [upd,Nc,↓reduceIte]; rfl,AS.le.refl _⟩
    ·clear g9 g10 g0
     rintro E1 s2 ⟨i,hi,g12,g11,g10,g0,hle⟩ -
     refine wK fun K2 hK2=>?_
     by_cases hi' : i < P.length
     ·refine jB (Ai @g12 (Ai @g11 (Ai @eye_lt_nat (decide_eq_true hi')))) ?_
      refine jE ?_
      refine awp_skip ?_
      refine hK2 _ _ ?_;clear hK2 K2
      refine wK fun K3 hK3=>?_
      refine awp_block ?_
      have hge : (0 : Int)≤((i : Nat) : Int):=by omega
      have hatP:=hPat i hi'
      have hpi:=hpm _ (List.getElem_mem hi')
      have hps':=hps i hi'
      have hstep:=hfo i hi' M
      have hcl:=hputs (P.take i)
      rw [hMl] at hcl
      generalize (P.take i).foldl (putU (freeT t)) M = cur at *
      generalize P[i] = u at *
      have hu : u < cur.length:=by omega
      have hge2 : (0 : Int)≤((u : Nat) : Int):=by omega
      have hat:=node_at hu
      rw [hps'] at hat
      have hwi:=fun n s=>with20_calls (Γ:=Γ) cur (by omega) (by omega) u hu n s
      have g0u : E1 0 = .sl 5 cur.length (rowC NodeV.cells cur) .any:=g0
      have hnr:=h1.nd u
      have hvn:=free_not h1 (i:=u)
      have hnext : ∀ (E : Env) (s3 : AS),E 12 = .v (.int .i64 i)→E 11 = .sl 1 P.length (PI.map intC) .any→E 10 = .v (.int .i64 (freeT t))→E 0 = treeV ((P.take (i + 1)).foldl (putU (freeT t)) M)→s10.le s3→K3 E s3:=by
       intro E s3 f12 f11 f10 f0 fle
       refine hK3 _ _ ?_;clear hK3 K3
       refine jD (Ai @f12 (eye_succM i (by omega))) ?_
       refine ⟨⟨i + 1,by omega,by simp only [upd,Nc,↓reduceIte],by simp only [upd,f11,Nc,↓reduceIte],by simp only [upd,f10,Nc,↓reduceIte],by simp only [upd,f0,Nc,↓reduceIte],fle⟩,?_⟩
       simp only [g12,upd,↓reduceIte]
       omega
      clear hK3
      rw [hstep] at hnext
      generalize hXC : rowC NodeV.cells cur = XC at *
      generalize hN : nd t u = N at *
      have hput : ∀ (h : N.kind = 2),putU (freeT t) cur u = cur.set u (insN N (freeT t)):=fun h=>by unfold putU; rw [hps',if_pos h]; rfl
      have hput0 : ∀ (h : N.kind≠2),putU (freeT t) cur u = cur:=fun h=>by unfold putU; rw [hps',if_neg h]
      obtain ⟨nk,nm,ny,npa,nu⟩:=N
      unfold NodeV.cells at hat
      unfold intsV at hat
      simp only at hput hput0 hvn
      refine jS (Ai @g12 (Ai @g11 (Ai @g0u (Ai @hge (Ai @eye_lt_nat (Ai @hi' (Ai @hatP (Ai @hge2 (Ai @hu @hat))))))))) fun K hK=>?_
      intro o13 h13
      refine hK _ _ ?_;clear hK K
      have h13s:=AS.le_none hle h13
      have hle3:=AS.le_set hle h13s
      refine wK fun K4 hK4=>?_
      by_cases hk2 : nk = 2
      ·refine jB (eqI hk2) ?_
       refine jF ?_
       refine awp_skip ?_
       refine hK4 _ _ ?_;clear hK4 K4
       refine jA ?_
       refine wK fun K5 hK5=>?_
       refine jA ?_
       refine awp_block ?_
       have hris:=((right_two (by rw [hk2])).1 hnr).2.2
       have hul : nu.length≤32:=rising_len hris
       have hall:=insRk_all hris hvn (by omega)
       have hput1:=hput hk2
       rw [hput1] at hnext
       have hwi2:=fun s=>hwi (insN ⟨nk,nm,ny,npa,nu⟩ (freeT t)) s
       have hN2 : (insN ⟨nk,nm,ny,npa,nu⟩ (freeT t)).cells = [.v (.int .i64 nk),.sl 1 nm.length (nm.map byteV) .any,.v (.int .u64 ny),.sl 1 npa.length (npa.map byteV) .any,.sl 1 (insU nu (freeT t : Int)).length ((insU nu (freeT t : Int)).map intC) .any]:=rfl
       rw [hN2] at hwi2
       generalize treeV (cur.set u (insN ⟨nk,nm,ny,npa,nu⟩ (freeT t))) = NX at *
       generalize treeV cur = CX at *
       have hhas:=fun (k : Nat) s=>has_calls (Γ:=Γ) nu (k : Int) (by omega) s
       clear hput0 hput hput1 hat hN hXC hstep hputs hps hfo hPat
       refine awp_loop (fun E s3=>∃ (k : Nat) (x : AV),k≤32∧E 15 = .v (.int .i64 k)∧E 14 = x∧E 13 = .ptr o13 0∧E 12 = .v (.int .i64 i)∧E 11 = .sl 1 P.length (PI.map intC) .any∧E 10 = .v (.int .i64 (freeT t))∧E 0 = CX∧RBuf 1 s10 s3 x (insRk nu (freeT t) k).length ((insRk nu (freeT t) k).map intC)∧s10.le s3∧s3.objs o13 = some [.v (.int .i64 nk),.sl 1 nm.length (nm.map byteV) .any,.v (.int .u64 ny),.sl 1 npa.length (npa.map byteV) .any,.sl 1 nu.length (nu.map intC) .any])
        (fun E _=>match E 15 with | .v (.int _ i)=>32 - i.toNat | _=>0) ?_ ?_
       ·exact ⟨0,_,Nat.zero_le _,by simp only [upd,Nc,↓reduceIte]; rfl,by simp only [upd,Nc,↓reduceIte]; rfl,by simp only [upd,Nc,↓reduceIte],by simp only [upd,g12,Nc,↓reduceIte],by simp only [upd,g11,Nc,↓reduceIte],by simp only [upd,g10,Nc,↓reduceIte],by simp only [upd,g0,Nc,↓reduceIte],RBuf.nil _ _ _,hle3 _,AS.set_objs_same _ _ _⟩
       ·clear g12 g11 g10 g0 hle hle3 h13
        rintro E1 s3 ⟨k,x,hk,g15,g14,g13,g12,g11,g10,g0,hx,hle,hob⟩ -
        refine wK fun K6 hK6=>?_
        by_cases hk' : k < 32
        ·refine jB (Ai @g15 (decide_eq_true (show (k : Int) < 32 by omega))) ?_
         refine jE ?_
         refine awp_skip ?_
         refine hK6 _ _ ?_;clear hK6 K6
         refine wK fun K7 hK7=>?_
         refine awp_block ?_
         have hs:=insRk_succ nu (freeT t) k
         have hkl:=insRk_len nu (freeT t) k
         have hend : ∀ (E : Env) (s4 : AS) (x2 : AV),E 15 = .v (.int .i64 k)→E 14 = x2→E 13 = .ptr o13 0→E 12 = .v (.int .i64 i)→E 11 = .sl 1 P.length (PI.map intC) .any→E 10 = .v (.int .i64 (freeT t))→E 0 = CX→RBuf 1 s10 s4 x2 (insRk nu (freeT t) (k + 1)).length ((insRk nu (freeT t) (k + 1)).map intC)→s10.le s4→s4.objs o13 = s3.objs o13→K7 E s4:=by
          intro E s4 x2 f15 f14 f13 f12 f11 f10 f0 fx fle fo
          refine hK7 _ _ ?_;clear hK7 K7
          refine jD (Ai @f15 (eye_succM k (by omega))) ?_
          refine ⟨⟨k + 1,x2,by omega,by simp only [upd,Nc,↓reduceIte],by simp only [upd,f14,Nc,↓reduceIte],by simp only [upd,f13,Nc,↓reduceIte],by simp only [upd,f12,Nc,↓reduceIte],by simp only [upd,f11,Nc,↓reduceIte],by simp only [upd,f10,Nc,↓reduceIte],by simp only [upd,f0,Nc,↓reduceIte],fx,fle,by rw [fo]; exact hob⟩,?_⟩
          simp only [g15,upd,↓reduceIte]
          omega
         clear hK7
         refine wK fun K8 hK8=>?_
         have hN : ∀ (E : Env),E 84 = .v (.bool false)→¬ (k = freeT t∨(k : Int) ∈ nu)→E 15 = .v (.int .i64 k)→E 14 = x→E 13 = .ptr o13 0→E 12 = .v (.int .i64 i)→E 11 = .sl 1 P.length (PI.map intC) .any→E 10 = .v (.int .i64 (freeT t))→E 0 = CX→K8 E s3:=by
          intro E f84 hno f15 f14 f13 f12 f11 f10 f0
          rw [hs,if_neg hno,List.append_nil] at hend
          refine hK8 _ _ ?_;clear hK8 K8
          refine wC fun X Y hX hY=>?_
          simp only [↓DN,Qa,Qb,Qc,Qd,Qe,Qf,Qg,Qh,reduceCtorEq,↓reduceIte,Na,Nb,Nc,Nk,Nf,Ng,Nh,Za,Zb,Zc,TT,DB,f84]
          refine hY ?_;clear hX hY X Y
          refine awp_skip ?_
          simp only [blockQ,thenQ,if_true,if_false]
          exact hend _ _ _ f15 f14 f13 f12 f11 f10 f0 hx hle rfl
         have hY : ∀ (E : Env),E 84 = .v (.bool true)→(k = freeT t∨(k : Int) ∈ nu)→E 15 = .v (.int .i64 k)→E 14 = x→E 13 = .ptr o13 0→E 12 = .v (.int .i64 i)→E 11 = .sl 1 P.length (PI.map intC) .any→E 10 = .v (.int .i64 (freeT t))→E 0 = CX→K8 E s3:=by
          intro E f84 hyes f15 f14 f13 f12 f11 f10 f0
          rw [hs,if_pos hyes,List.length_append,List.length_singleton,List.map_append,List.map_cons,List.map_nil] at hend
          generalize insRk nu (freeT t) k = F at *
          refine hK8 _ _ ?_
          clear hN hK8 K8
          refine wC fun X Y hX hY=>?_
          simp only [↓DN,Qa,Qb,Qc,Qd,Qe,Qf,Qg,Qh,reduceCtorEq,↓reduceIte,Na,Nb,Nc,Nk,Nf,Ng,Nh,Za,Zb,Zc,TT,DB,f84]
          refine hX ?_;clear hX hY X Y
          rcases hx with ⟨rfl,hi0,hL0⟩ | ⟨t',e,rfl,ht',ht0⟩
          ·refine wE fun K hK=>?_
           simp only [↓DN,Qa,Qb,Qc,Qd,Qe,Qf,Qg,Qh,reduceCtorEq,↓reduceIte,Na,Nb,Nc,Nk,Nf,Ng,Nh,Za,Zb,Zc,TT,f14,f15,intC,nilS,List.replicate_succ]
           intro t' ht'
           refine hK _ _ ?_
           simp only [blockQ,thenQ,if_true,if_false]
           rw [hi0,hL0] at hend
           exact hend _ _ (.sl 1 1 [.v (.int .i64 k)] (.own t' 0)) (by simp only [upd,f15,Nc,↓reduceIte]) (by simp only [upd,Nc,↓reduceIte]) (by simp only [upd,f13,Nc,↓reduceIte]) (by simp only [upd,f12,Nc,↓reduceIte]) (by simp only [upd,f11,Nc,↓reduceIte]) (by simp only [upd,f10,Nc,↓reduceIte]) (by simp only [upd,f0,Nc,↓reduceIte]) (.inr ⟨t',0,rfl,by simp [AS.gain],own_none_le hle ht'⟩) (AS.le_gain hle (own_none_le hle ht') 0) rfl
          ·refine wE fun K hK=>?_
           simp only [↓DN,Qa,Qb,Qc,Qd,Qe,Qf,Qg,Qh,reduceCtorEq,↓reduceIte,Na,Nb,Nc,Nk,Nf,Ng,Nh,Za,Zb,Zc,TT,f14,f15,intC,ht',List.replicate_succ]
           refine ⟨by omega,by omega,hK _ _ ?_⟩
           simp only [blockQ,thenQ,if_true,if_false]
           exact hend _ _ (.sl 1 (F.length + 1) (F.map intC ++ [.v (.int .i64 k)]) (.own t' (e + 1))) (by simp only [upd,f15,Nc,↓reduceIte]) (by simp only [upd,Nc,↓reduceIte]) (by simp only [upd,f13,Nc,↓reduceIte]) (by simp only [upd,f12,Nc,↓reduceIte]) (by simp only [upd,f11,Nc,↓reduceIte]) (by simp only [upd,f10,Nc,↓reduceIte]) (by simp only [upd,f0,Nc,↓reduceIte]) (.inr ⟨t',e + 1,rfl,by simp [AS.gain],ht0⟩) (AS.le_gain hle ht0 (e + 1)) rfl
         clear hK8 hend
         by_cases hv : k = freeT t
         ·refine jU (Ai @g15 (Ai @g10 (natN hv))) fun K hK=>?_
          exact hK _ _ (hY _ (by simp only [upd,Nc,↓reduceIte]) (.inl hv) (by simp only [upd,g15,Nc,↓reduceIte]) (by simp only [upd,g14,Nc,↓reduceIte]) (by simp only [upd,g13,Nc,↓reduceIte]) (by simp only [upd,g12,Nc,↓reduceIte]) (by simp only [upd,g11,Nc,↓reduceIte]) (by simp only [upd,g10,Nc,↓reduceIte]) (by simp only [upd,g0,Nc,↓reduceIte]))
         ·by_cases hm : (k : Int) ∈ nu
          ·refine jU (Ai @g15 (Ai @g10 (Ai @g13 (Ai @hob (natF hv))))) fun K hK=>?_
           refine acallk (hhas _ _) ?_
           rintro r s9 ⟨rfl,rfl⟩
           rw [decide_eq_true hm]
           simp only [↓DM,pval,DX,Nz,↓DN,Qa,Qb,Qc,Qd,Qe,Qf,Qg,Qh,reduceCtorEq,↓reduceIte,Na,Nb,Nc,Nk,Nf,Ng,Nh,Za,Zb,Zc,TT]
           exact hK _ _ (hY _ (by simp only [upd,Nc,↓reduceIte]) (.inr hm) (by simp only [upd,g15,Nc,↓reduceIte]) (by simp only [upd,g14,Nc,↓reduceIte]) (by simp only [upd,g13,Nc,↓reduceIte]) (by simp only [upd,g12,Nc,↓reduceIte]) (by simp only [upd,g11,Nc,↓reduceIte]) (by simp only [upd,g10,Nc,↓reduceIte]) (by simp only [upd,g0,Nc,↓reduceIte]))
          ·refine jU (Ai @g15 (Ai @g10 (Ai @g13 (Ai @hob (natF hv))))) fun K hK=>?_
           refine acallk (hhas _ _) ?_
           rintro r s9 ⟨rfl,rfl⟩
           rw [decide_eq_false hm]
           simp only [↓DM,pval,DX,Nz,↓DN,Qa,Qb,Qc,Qd,Qe,Qf,Qg,Qh,reduceCtorEq,↓reduceIte,Na,Nb,Nc,Nk,Nf,Ng,Nh,Za,Zb,Zc,TT]
           exact hK _ _ (hN _ (by simp only [upd,Nc,↓reduceIte]) (fun q=>q.elim hv hm) (by simp only [upd,g15,Nc,↓reduceIte]) (by simp only [upd,g14,Nc,↓reduceIte]) (by simp only [upd,g13,Nc,↓reduceIte]) (by simp only [upd,g12,Nc,↓reduceIte]) (by simp only [upd,g11,Nc,↓reduceIte]) (by simp only [upd,g10,Nc,↓reduceIte]) (by simp only [upd,g0,Nc,↓reduceIte]))
        ·obtain rfl : k = 32:=by omega
         rw [hall] at hx
         refine jB (Ai @g15 (decide_eq_false (show ¬ (((32 : Nat) : Int) < 32) by decide))) ?_
         refine jF ?_
         refine awp_exit ?_
         simp only [thenQ,blockQ,if_true]
         refine hK5 _ _ ?_;clear hK5 K5 hK6 K6
         have ox:=hx.one
         have wx:=hx.weak
         have cx : AV.cells x = [x]:=by rcases hx with ⟨rfl,_,_⟩ | ⟨t',e,rfl,_,_⟩ <;> rfl
         simp only [AV.one] at ox
         simp only [AV.cells] at cx
         refine jB (Ai @g14 (Ai @g13 (Ai @hob (Ai @ox @cx)))) ?_
         refine awp_drw_end T.mixed [5,6] (by kernel_rfl) ?_
         intro K hK
         simp only [↓DM,pval,DX,Nz,↓DN,Qa,Qb,Qc,Qd,Qe,Qf,Qg,Qh,reduceCtorEq,↓reduceIte,Na,Nb,Nc,Nk,Nf,Ng,Nh,Za,Zb,Zc,TT,g0,g11,g12,g13,hge,eye_lt_nat,hi',hatP]
         refine acallk (ACalls.weaks (.cons (AV.weak.refl _) (.cons (AV.weak.refl _) (.cons (AV.weak_agg (.cons (AV.weak.refl _) (.cons (AV.weak.refl _) (.cons (AV.weak.refl _) (.cons (AV.weak.refl _) (.cons wx .nil)))))) .nil))) (hwi2 _)) ?_
         rintro r s9 ⟨rfl,rfl⟩
         refine jR hK ?_;clear hK K
         simp only [blockQ,thenQ,if_true,if_false]
         exact hnext _ _ (by simp only [upd,g12,Nc,↓reduceIte]) (by simp only [upd,g11,Nc,↓reduceIte]) (by simp only [upd,g10,Nc,↓reduceIte]) (by simp only [upd,Nc,↓reduceIte]) (AS.le_set hle h13s _)
      ·rw [hput0 hk2] at hnext
       refine jB (neI hk2) ?_
       refine jE ?_
       refine awp_exit ?_
       simp only [thenQ,blockQ,if_true,if_false]
       refine hnext _ _ (by simp only [upd,g12,Nc,↓reduceIte]) (by simp only [upd,g11,Nc,↓reduceIte]) (by simp only [upd,g10,Nc,↓reduceIte]) (by simp only [upd,g0,Nc,↓reduceIte]) (hle3 _)
     ·refine jB (Ai @g12 (Ai @g11 (Ai @eye_lt_nat (decide_eq_false hi')))) ?_
      refine jF ?_
      refine awp_exit ?_
      simp only [thenQ,blockQ,if_true]
      refine hK _ _ ?_;clear hK hK2 K2 K
      obtain rfl : i = P.length:=by omega
      rw [hfull] at g0
      refine jB (Ai @g0 @g10) ?_
      refine jI ?_
      exact ⟨_,_,AV.weak.refl _,AS.le.refl _,rfl,hle⟩
   clear hK
   by_cases hfl : freeT t = lvs t
   ·refine jS (Ai @g10 @g0) fun K hK=>?_
    refine acallk (hlv _) ?_
    rintro r s8 ⟨rfl,rfl⟩
    refine jV (natN hfl) hK ?_;clear hK K
    refine jE ?_
    by_cases h32 : freeT t = 32
    ·rw [if_pos h32]
     refine wK fun K5 hK5=>?_
     refine jB (Ai @g10 (yesI (show (freeT t : Int) = 32 by omega))) ?_
     refine jE ?_
     refine jA ?_
     refine jI ?_
     exact ⟨_,_,AV.weak.refl _,AS.le.refl _,rfl,AS.le.refl _⟩
    ·rw [if_neg h32] at *
     refine wK fun K5 hK5=>?_
     refine jB (Ai @g10 (notI (show (freeT t : Int)≠32 by omega))) ?_
     refine jF ?_
     refine awp_skip ?_
     refine hK5 _ _ ?_;clear hK5 K5
     have hm : moreT t (freeT t) = t ++ List.replicate (t.length + 1) NodeV.nought:=if_pos hfl
     have g0u : E1 0 = .sl 5 t.length (rowC NodeV.cells t) .any:=g0
     have hone:=row_ones t
     have ht0 : t.length≠0:=by have:=hlen.2.le; omega
     refine awp_region_at2_3 rfl (by simp) rfl (by simp) ?_
     intro ops
     simp only [↓DM,pval,DX,Nz,↓DN,Qa,Qb,Qc,Qd,Qe,Qf,Qg,Qh,reduceCtorEq,↓reduceIte,Na,Nb,Nc,Nk,Nf,Ng,Nh,Za,Zb,Zc,TT,g0u]
     refine ⟨_,fun G a w hr=>append_own_res (n:=0) (m:=t.length) (cs:=[]) (ds:=rowC NodeV.cells t) (e:=69) rfl Tryz.underlying26 (by simp only [↓DN,Qa,Qb,Qc,Qd,Qe,Qf,Qg,Qh,reduceCtorEq,↓reduceIte,Na,Nb,Nc,Nk,Nf,Ng,Nh,Za,Zb,Zc,TT]; try rfl) T.z69 (by rw [T.c69]; decide) (by rw [T.c69]; rfl) (by rw [T.c69]; simp only [↓DN,Qa,Qb,Qc,Qd,Qe,Qf,Qg,Qh,reduceCtorEq,↓reduceIte,Na,Nb,Nc,Nk,Nf,Ng,Nh,Za,Zb,Zc,TT,asrc,aeval,upd,Nc,↓reduceIte]) ht0 (by rw [T.b69]; omega) (by omega) hone (by rw [T.c69]; exact .inl ⟨rfl,rfl,.inr (.inr rfl)⟩) hr.eval hr.st,?_⟩
     rw [T.c69]
     rintro r s1 ⟨ob,cap,rest,rfl,hcap,h63,hrest,hob,rfl⟩
     have hob : s8.objs ob = none:=by
      rcases hob with h | ⟨_,h⟩
      ·exact h
      ·simp [aeval,upd] at h
     simp only [↓DM,pval,DX,Nz,↓DN,Qa,Qb,Qc,Qd,Qe,Qf,Qg,Qh,reduceCtorEq,↓reduceIte,Na,Nb,Nc,Nk,Nf,Ng,Nh,Za,Zb,Zc,TT,g0u,eye_succM t.length (by omega)]
     rw [Nat.zero_add] at *
     refine ⟨_,fun G a w hr=>append_made_own_res (n:=t.length) (k:=t.length + 1) (cs:=rowC NodeV.cells t) (e:=69) rfl Tryz.underlying26 Tryz.underlying3 T.z69 (by rw [T.c69]; decide) (by rw [T.c69]; rfl) rfl (by simp only [aeval,upd,Nc,↓reduceIte]) (by omega) (by rw [T.b69]; omega) (by omega) (by rw [T.c69]; simp only [aeval,upd,Nc,↓reduceIte]; exact .inr ⟨ob,cap,rest,rfl,AS.set_objs_same _ _ _,Go.AM.row_len (c:=NodeV.cells) cells_len t,hrest,hcap,h63⟩) hr.eval hr.st,?_⟩
     rw [T.c69]
     rintro r9 s9 ⟨ob',cap',rest',rfl,hcap',h63',hrl',hfree,rfl⟩
     simp only [aeval,upd,Nc,↓reduceIte] at hfree
     simp only [↓DM,pval,DX,Nz,↓DN,Qa,Qb,Qc,Qd,Qe,Qf,Qg,Qh,reduceCtorEq,↓reduceIte,Na,Nb,Nc,Nk,Nf,Ng,Nh,Za,Zb,Zc,TT]
     have hset:=Settles.more (Γ:=Γ) (t:=t) (k:=t.length + 1) (rest':=rest') (cap':=cap') hob hfree
     rw [← hm,List.append_assoc] at hset
     exact hmain _ _ _ h32 (by simp only [upd,g10,Nc,↓reduceIte]) (by simp only [upd,Nc,↓reduceIte]) hset (by simp only [upd,g9,Nc,↓reduceIte])
   ·have hm : moreT t (freeT t) = t:=if_neg hfl
    rw [hm] at hmain
    refine jS (Ai @g10 @g0) fun K hK=>?_
    refine acallk (hlv _) ?_
    rintro r s8 ⟨rfl,rfl⟩
    refine jV (natF hfl) hK ?_;clear hK K
    refine jF ?_
    refine awp_skip ?_
    exact hmain _ _ _ (by omega) (by simp only [upd,g10,Nc,↓reduceIte]) (by simp only [upd,g0,Nc,↓reduceIte]) (Settles.refl _) (by simp only [upd,g9,Nc,↓reduceIte])
end Go.Proofs.YtfjlmkifiihgkaaGreatDoor
