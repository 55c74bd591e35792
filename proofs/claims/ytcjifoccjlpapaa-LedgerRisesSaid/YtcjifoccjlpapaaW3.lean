/- Contracts of the program's functions, each walked once; the conditions stand in each theorem. -/
import Derived.Test.YtcjifoccjlpapaaAMp6
import Derived.Test.YtcjifoccjlpapaaW1
import Derived.Test.YtcjifoccjlpapaaW2
import Derived.Test.YtcjifoccjlpapaaAMp4
set_option linter.unusedSimpArgs false
set_option linter.unusedVariables false
open Nat renaming reduceLT → Na, reduceLeDiff → Nb, reduceEqDiff → Nc, reduceAdd → Nk, reduceMul → Nf, reducePow → Ng, reduceSub → Nh, reduceBEq → Nz
open Int renaming reduceLT → Za, reduceLE → Zb, reduceToNat → Zc
open Go.AM renaming ashift → Qa, aconv → Qb, aindexAddr → Qc, aindex → Qd, aslice → Qe, abuiltin → Qf, awp_reg_seq → wS, awp_reg_end → wE, awp_seq_k → wK, awp_cond_k → wC
open Go.AM.AV renaming cells → Qg, one → Qh
set_option maxRecDepth 100000
set_option maxHeartbeats 8000000
set_option autoImplicit false
namespace Go.Proofs.Ytcjifoccjlpapaa
open Go Go.AM Go.Proofs
variable {Γ : Nat→List AV}
theorem totE_ge : ∀ {l : GrpV},(∀ q ∈ l,q.2≠[])→(l.length : Int)≤totE l
 | [],_=>by simp [totE]
 | (k,es) :: l,h=>by
  have:=totE_ge fun q hq=>h q (List.mem_cons_of_mem _ hq)
  have h1 : es≠[]:=h (k,es) List.mem_cons_self
  have:=List.length_pos_iff.2 h1
  simp only [totE,List.length_cons]
  omega
theorem totE_nn : ∀ l : GrpV,0≤totE l
 | []=>Int.le_refl _
 | (_,es) :: l=>by
  have:=totE_nn l
  simp only [totE]
  omega
theorem totE_pre (l : GrpV) (i : Nat) : totE (l.take i)≤totE l:=by
 have h:=totE_app (l.take i) (l.drop i)
 rw [List.take_append_drop] at h
 have:=totE_nn (l.drop i)
 omega
theorem bool_ne_self (b : Bool) : (b != b) = false:=by simp
theorem ledgerRises_calls (l : List Rec) (s : AS) : ACalls Try.prog Γ 3 [recsV l] s (fun r s'=>r = .v (.bool true)):=by
 refine acalls_body Try.func3 rfl Try.ntmps3 Try.results3 (by simp) ?_
 have hsm:=fun s=>small28_calls (Γ:=Γ) l 40 (by decide) s
 have hrow:=fun i (h : i < l.length)=>row_at (c:=Rec.cells) (k:=9) (fun _=>rfl) h
 unfold recsV at *
 generalize rowC Rec.cells l = X at *
 refine wS fun K hK=>?_
 simp only [↓DN,Qa,Qb,Qc,Qd,Qe,Qf,Qg,Qh,reduceCtorEq,↓reduceIte,Na,Nb,Nc,Nk,Nf,Ng,Nh,Za,Zb,Zc,TT]
 refine hK _ _ ?_;clear hK K
 refine wK fun K hK=>?_
 refine wS fun K hK=>?_
 simp only [↓DN,Qa,Qb,Qc,Qd,Qe,Qf,Qg,Qh,reduceCtorEq,↓reduceIte,Na,Nb,Nc,Nk,Nf,Ng,Nh,Za,Zb,Zc,TT]
 refine acallk (awake28_calls _) ?_
 rintro r s1 ⟨rfl,rfl⟩
 simp only [↓DM,pval,DX,Nz,↓DN,Qa,Qb,Qc,Qd,Qe,Qf,Qg,Qh,reduceCtorEq,↓reduceIte,Na,Nb,Nc,Nk,Nf,Ng,Nh,Za,Zb,Zc,TT]
 refine acallk (hsm _) ?_
 rintro r s2 ⟨⟨b,rfl,hb⟩,rfl⟩
 cases b with
 | false =>
  simp only [↓DM,pval,DX,Nz,↓DN,Qa,Qb,Qc,Qd,Qe,Qf,Qg,Qh,reduceCtorEq,↓reduceIte,Na,Nb,Nc,Nk,Nf,Ng,Nh,Za,Zb,Zc,TT]
  refine hK _ _ ?_;clear hK K
  refine wC fun X Y hX hY=>?_
  simp only [UP,DF,Nc,↓reduceIte,DB]
  refine hX ?_;clear hX hY X Y
  refine wS fun K hK=>?_
  simp only [↓DN,Qa,Qb,Qc,Qd,Qe,Qf,Qg,Qh,reduceCtorEq,↓reduceIte,Na,Nb,Nc,Nk,Nf,Ng,Nh,Za,Zb,Zc,TT]
  refine acallk (awake28_calls _) ?_
  rintro r s3 ⟨rfl,rfl⟩
  simp only [↓DM,pval,DX,Nz,↓DN,Qa,Qb,Qc,Qd,Qe,Qf,Qg,Qh,reduceCtorEq,↓reduceIte,Na,Nb,Nc,Nk,Nf,Ng,Nh,Za,Zb,Zc,TT]
  refine hK _ _ ?_;clear hK K
  refine awp_ret ?_
  try simp only [thenQ,blockQ]
  simp only [retQ,AEnds,aresL,ares,List.toList_toArray,↓upd_same]; try simp only [UP,DF,Nc,↓reduceIte,DT]
  exact ⟨_,_,AV.weak.refl _,AS.le.refl _,rfl⟩
 | true =>
  have hl40:=hb rfl
  clear hsm hb
  simp only [↓DM,pval,DX,Nz,↓DN,Qa,Qb,Qc,Qd,Qe,Qf,Qg,Qh,reduceCtorEq,↓reduceIte,Na,Nb,Nc,Nk,Nf,Ng,Nh,Za,Zb,Zc,TT]
  refine hK _ _ ?_;clear hK K
  refine wC fun X Y hX hY=>?_
  simp only [UP,DF,Nc,↓reduceIte,DB]
  refine hY ?_;clear hX hY X Y
  refine awp_skip ?_
  refine hK _ _ ?_;clear hK K
  refine wS fun K hK=>?_
  simp only [↓DN,Qa,Qb,Qc,Qd,Qe,Qf,Qg,Qh,reduceCtorEq,↓reduceIte,Na,Nb,Nc,Nk,Nf,Ng,Nh,Za,Zb,Zc,TT]
  refine acallk (ledNew_calls _) ?_
  rintro r s3 ⟨p,b1,b2,rfl,hL⟩
  simp only [↓DM,pval,DX,Nz,↓DN,Qa,Qb,Qc,Qd,Qe,Qf,Qg,Qh,reduceCtorEq,↓reduceIte,Na,Nb,Nc,Nk,Nf,Ng,Nh,Za,Zb,Zc,TT]
  refine hK _ _ ?_;clear hK K
  refine wK fun K hK=>?_
  refine wS fun K hK=>?_
  simp only [↓DN,Qa,Qb,Qc,Qd,Qe,Qf,Qg,Qh,reduceCtorEq,↓reduceIte,Na,Nb,Nc,Nk,Nf,Ng,Nh,Za,Zb,Zc,TT]
  refine hK _ _ ?_;clear hK K
  refine awp_block ?_
  refine awp_loop (fun E s'=>∃ (i : Nat) (L : LedV) (gs : List GEnt) (gt ge : Nat),i≤l.length∧L.count≤i∧L.rises∧LedS s2 s' p L gs gt ge b1 b2∧E 4 = .v (.int .i64 i)∧E 3 = .ptr p 0∧E 0 = .sl 9 l.length X .any)
   (fun E _=>match E 4 with | .v (.int _ i)=>l.length - i.toNat | _=>0) ?_ ?_
  ·exact ⟨0,LedV.new,[],0,0,Nat.zero_le _,by decide,new_rises,hL,by simp only [upd,Nc,↓reduceIte]; rfl,by simp only [upd,Nc,↓reduceIte],by simp only [upd,initE,List.getD_cons_zero,List.getD_cons_succ,Nc,↓reduceIte]⟩
  ·clear hL
   rintro E1 s4 ⟨i,L,gs,gt,ge,hi,hci,hris,hL,g4,g3,g0⟩ -
   refine wK fun K2 hK2=>?_
   have hinv:=hris.inv (by omega)
   have hgl : gs.length≤2 ^ 40:=by
    have h1:=totE_ge fun q hq=>(hris.2.1 q hq).1
    have h2:=hris.2.2.1
    have h3 : L.gs.length = gs.length:=by rw [hL.val,List.length_map]
    omega
   have hc0:=hris.2.2.2
   by_cases hi' : i < l.length
   ·refine wS fun K hK=>?_
    simp only [↓DN,Qa,Qb,Qc,Qd,Qe,Qf,Qg,Qh,reduceCtorEq,↓reduceIte,Na,Nb,Nc,Nk,Nf,Ng,Nh,Za,Zb,Zc,TT,g4,g0,eye_lt_nat,decide_eq_true hi']
    refine hK _ _ ?_;clear hK K
    refine wC fun X Y hX hY=>?_
    simp only [UP,DF,Nc,↓reduceIte,DB]
    refine hX ?_;clear hX hY X Y
    refine awp_skip ?_
    refine hK2 _ _ ?_;clear hK2 K2
    refine wK fun K3 hK3=>?_
    refine awp_block ?_
    have hge : (0 : Int)≤((i : Nat) : Int):=by omega
    have hat:=hrow i hi'
    generalize l[i] = r at *
    have hsh:=ledShred_calls (Γ:=Γ) hL r.bucket
    have hcn:=ledCount_calls (Γ:=Γ) hL
    have hadd:=ledAdd_calls (Γ:=Γ) hL hinv ⟨by omega,by omega⟩ hgl r
    have hend : ∀ (E : Env) (s5 : AS) (L : LedV) (gs : List GEnt) (gt ge : Nat),L.count≤((i + 1 : Nat) : Int)→L.rises→LedS s2 s5 p L gs gt ge b1 b2→E 4 = .v (.int .i64 i)→E 3 = .ptr p 0→E 0 = .sl 9 l.length X .any→K3 E s5:=by
     intro E s5 L gs gt ge hci hris hL k4 g3 g0
     refine hK3 _ _ ?_;clear hK3 K3
     refine wE fun K hK=>?_
     simp only [↓DN,Qa,Qb,Qc,Qd,Qe,Qf,Qg,Qh,reduceCtorEq,↓reduceIte,Na,Nb,Nc,Nk,Nf,Ng,Nh,Za,Zb,Zc,TT,k4,eye_succM i (by omega)]
     refine hK _ _ ?_;clear hK K
     refine ⟨⟨i + 1,L,gs,gt,ge,hi',hci,hris,hL,by simp only [upd,Nc,↓reduceIte],by simp only [upd,g3,Nc,↓reduceIte],by simp only [upd,g0,Nc,↓reduceIte]⟩,?_⟩
     simp only [g4,upd,↓reduceIte]
     omega
    clear hK3
    have hris':=add_rises hris r
    have hok:=add_shr (L:=L) (r:=r)
    have herr:=add_err (L:=L) (r:=r)
    have hnsh:=fun h=>(check_ok (L:=L) (r:=r) h).2.2.1
    generalize checkV L r = V at *
    generalize addV L r = LA at *
    obtain ⟨rk,rg,re,rt,rb,ry,rtr,rsc,rw'⟩:=r
    unfold Rec.cells at *
    simp only at *
    unfold bytesV at *
    refine wS fun K hK=>?_
    simp only [↓DN,Qa,Qb,Qc,Qd,Qe,Qf,Qg,Qh,reduceCtorEq,↓reduceIte,Na,Nb,Nc,Nk,Nf,Ng,Nh,Za,Zb,Zc,TT,g3,g0,g4,eye_lt_nat,hi',hge,hat]
    refine acallk hsh ?_
    rintro r s5 ⟨rfl,rfl⟩
    simp only [↓DM,pval,DX,Nz,↓DN,Qa,Qb,Qc,Qd,Qe,Qf,Qg,Qh,reduceCtorEq,↓reduceIte,Na,Nb,Nc,Nk,Nf,Ng,Nh,Za,Zb,Zc,TT,g3]
    refine acallk hcn ?_
    rintro r s6 ⟨rfl,rfl⟩
    simp only [↓DM,pval,DX,Nz,↓DN,Qa,Qb,Qc,Qd,Qe,Qf,Qg,Qh,reduceCtorEq,↓reduceIte,Na,Nb,Nc,Nk,Nf,Ng,Nh,Za,Zb,Zc,TT]
    refine hK _ _ ?_;clear hK K
    refine wS fun K hK=>?_
    simp only [↓DN,Qa,Qb,Qc,Qd,Qe,Qf,Qg,Qh,reduceCtorEq,↓reduceIte,Na,Nb,Nc,Nk,Nf,Ng,Nh,Za,Zb,Zc,TT,g3,g0,g4,eye_lt_nat,hi',hge,hat]
    refine acallk hadd ?_
    rintro v s7 ⟨rfl,gs',gt',ge',hL'⟩
    simp only [↓DM,pval,DX,Nz,↓DN,Qa,Qb,Qc,Qd,Qe,Qf,Qg,Qh,reduceCtorEq,↓reduceIte,Na,Nb,Nc,Nk,Nf,Ng,Nh,Za,Zb,Zc,TT]
    refine hK _ _ ?_;clear hK K
    have hsh':=ledShred_calls (Γ:=Γ) hL' rb
    have hcn':=ledCount_calls (Γ:=Γ) hL'
    by_cases hv : V = 0
    ·obtain ⟨hk3,hct⟩:=hok hv
     have hd : decide (rb ∈ LA.shr) = (rk == 3):=by
      rw [Bool.eq_iff_iff,decide_eq_true_iff,beq_iff_eq]
      exact hk3
     rw [hd] at hsh'
     have e1 : iadd .i64 L.count 1 = L.count + 1:=iadd_i64 (by omega)
     have e2 : (LA.count != L.count + 1) = false:=int_bne_false hct
     have e3 : ((rk == 3) != (rk == 3)) = false:=bool_ne_self _
     refine awp_drw_seq T.mixed [6,18,33] (by kernel_rfl) ?_
     intro K hK
     simp only [↓DM,pval,DX,Nz,↓DN,Qa,Qb,Qc,Qd,Qe,Qf,Qg,Qh,reduceCtorEq,↓reduceIte,Na,Nb,Nc,Nk,Nf,Ng,Nh,Za,Zb,Zc,TT,g3,g0,g4,eye_lt_nat,hi',hge,hat,int_eq_yes hv,decide_eq_false (hnsh hv)]
     refine acallk hcn' ?_
     rintro r s8 ⟨rfl,rfl⟩
     simp only [↓DM,pval,DX,Nz,↓DN,Qa,Qb,Qc,Qd,Qe,Qf,Qg,Qh,reduceCtorEq,↓reduceIte,Na,Nb,Nc,Nk,Nf,Ng,Nh,Za,Zb,Zc,TT,e1,e2,g3,g0,g4,eye_lt_nat,hi',hge,hat,int_eq_yes hv]
     refine acallk hsh' ?_
     rintro r s9 ⟨rfl,rfl⟩
     simp only [↓DM,pval,DX,Nz,↓DN,Qa,Qb,Qc,Qd,Qe,Qf,Qg,Qh,reduceCtorEq,↓reduceIte,Na,Nb,Nc,Nk,Nf,Ng,Nh,Za,Zb,Zc,TT,e3,g3,g0,g4,eye_lt_nat,hi',hge,hat,int_bne_false hv]
     refine hK _ _ ?_;clear hK K
     refine wC fun X Y hX hY=>?_
     simp only [UP,DF,Nc,↓reduceIte,DB]
     refine hY ?_;clear hX hY X Y
     refine awp_skip ?_
     simp only [blockQ,thenQ,if_true,if_false]
     exact hend _ _ LA gs' gt' ge' (by omega) hris' hL' (by simp only [upd,g4,Nc,↓reduceIte]) (by simp only [upd,g3,Nc,↓reduceIte]) (by simp only [upd,g0,Nc,↓reduceIte])
    ·have hLA:=herr hv
     have e2 : (LA.count != L.count) = false:=int_bne_false (by rw [hLA])
     refine awp_drw_seq T.mixed [6,18,33] (by kernel_rfl) ?_
     intro K hK
     simp only [↓DM,pval,DX,Nz,↓DN,Qa,Qb,Qc,Qd,Qe,Qf,Qg,Qh,reduceCtorEq,↓reduceIte,Na,Nb,Nc,Nk,Nf,Ng,Nh,Za,Zb,Zc,TT,g3,g0,g4,eye_lt_nat,hi',hge,hat,int_eq_no hv,int_bne_true hv]
     refine acallk hcn' ?_
     rintro r s8 ⟨rfl,rfl⟩
     simp only [↓DM,pval,DX,Nz,↓DN,Qa,Qb,Qc,Qd,Qe,Qf,Qg,Qh,reduceCtorEq,↓reduceIte,Na,Nb,Nc,Nk,Nf,Ng,Nh,Za,Zb,Zc,TT,e2]
     refine hK _ _ ?_;clear hK K
     refine wC fun X Y hX hY=>?_
     simp only [UP,DF,Nc,↓reduceIte,DB]
     refine hY ?_;clear hX hY X Y
     refine awp_skip ?_
     simp only [blockQ,thenQ,if_true,if_false]
     exact hend _ _ LA gs' gt' ge' (by rw [hLA]; omega) hris' hL' (by simp only [upd,g4,Nc,↓reduceIte]) (by simp only [upd,g3,Nc,↓reduceIte]) (by simp only [upd,g0,Nc,↓reduceIte])
   ·refine wS fun K hK=>?_
    simp only [↓DN,Qa,Qb,Qc,Qd,Qe,Qf,Qg,Qh,reduceCtorEq,↓reduceIte,Na,Nb,Nc,Nk,Nf,Ng,Nh,Za,Zb,Zc,TT,g4,g0,eye_lt_nat,decide_eq_false hi']
    refine hK _ _ ?_;clear hK K
    refine wC fun X Y hX hY=>?_
    simp only [UP,DF,Nc,↓reduceIte,DB]
    refine hY ?_;clear hX hY X Y
    refine awp_exit ?_
    simp only [thenQ,blockQ,if_true]
    refine hK _ _ ?_;clear hK hK2 K2 K hrow
    have hnd:=hris.1
    have hok:=hris.2.1
    have htot:=hris.2.2.1
    have hLn : L.gs.length = gs.length:=by rw [hL.val,List.length_map]
    have hcn:=ledCount_calls (Γ:=Γ) hL
    have hgr:=ledGroups_calls (Γ:=Γ) hL hgl
    have hent:=fun g=>ledEntries_calls (Γ:=Γ) hL hinv g
    clear hL hris
    obtain ⟨N,hN⟩ : ∃ N,N = L.gs.map (·.1):=⟨_,rfl⟩
    have hNl : N.length = L.gs.length:=by rw [hN,List.length_map]
    have hNi : ∀ j (h : j < N.length),∃ hj : j < L.gs.length,entsOf N[j] L.gs = L.gs[j].2:=by
     intro j h
     have hj : j < L.gs.length:=by omega
     refine ⟨hj,?_⟩
     have e : N[j] = L.gs[j].1:=by simp [hN]
     rw [e]
     exact entsOf_at hj hnd
    have hat : ∀ j (h : j < N.length),List.take 1 (List.drop j (N.map fun g=>bytesV g .any)) = [.sl 1 N[j].length (N[j].map byteV) .any]:=fun j h=>take_map _ h
    rw [← hN] at hgr
    clear hN
    unfold grpsV at hgr
    generalize (N.map fun g=>bytesV g .any) = XG at *
    generalize hG : L.gs = G at *
    refine wS fun K hK=>?_
    simp only [↓DN,Qa,Qb,Qc,Qd,Qe,Qf,Qg,Qh,reduceCtorEq,↓reduceIte,Na,Nb,Nc,Nk,Nf,Ng,Nh,Za,Zb,Zc,TT,g3]
    refine acallk hgr ?_
    rintro r s5 ⟨rfl,rfl⟩
    simp only [↓DM,pval,DX,Nz,↓DN,Qa,Qb,Qc,Qd,Qe,Qf,Qg,Qh,reduceCtorEq,↓reduceIte,Na,Nb,Nc,Nk,Nf,Ng,Nh,Za,Zb,Zc,TT]
    refine hK _ _ ?_;clear hK K
    refine wS fun K hK=>?_
    simp only [↓DN,Qa,Qb,Qc,Qd,Qe,Qf,Qg,Qh,reduceCtorEq,↓reduceIte,Na,Nb,Nc,Nk,Nf,Ng,Nh,Za,Zb,Zc,TT]
    refine hK _ _ ?_;clear hK K
    refine wK fun K hK=>?_
    refine wS fun K hK=>?_
    simp only [↓DN,Qa,Qb,Qc,Qd,Qe,Qf,Qg,Qh,reduceCtorEq,↓reduceIte,Na,Nb,Nc,Nk,Nf,Ng,Nh,Za,Zb,Zc,TT]
    refine hK _ _ ?_;clear hK K
    refine awp_block ?_
    refine awp_loop (fun E s'=>∃ j : Nat,j≤N.length∧E 8 = .sl 1 N.length XG .any∧E 9 = .v (.int .i64 (totE (G.take j)))∧E 10 = .v (.int .i64 j)∧E 3 = .ptr p 0∧s' = s5)
     (fun E _=>match E 10 with | .v (.int _ i)=>N.length - i.toNat | _=>0) ?_ ?_
    ·exact ⟨0,Nat.zero_le _,by simp only [upd,Nc,↓reduceIte],by simp only [upd,Nc,↓reduceIte,List.take_zero]; rfl,by simp only [upd,Nc,↓reduceIte]; rfl,by simp only [upd,g3,Nc,↓reduceIte],rfl⟩
    ·rintro E2 s6 ⟨j,hj,k8,k9,k10,k3,rfl⟩ -
     refine wK fun K2 hK2=>?_
     by_cases hj' : j < N.length
     ·refine wS fun K hK=>?_
      simp only [↓DN,Qa,Qb,Qc,Qd,Qe,Qf,Qg,Qh,reduceCtorEq,↓reduceIte,Na,Nb,Nc,Nk,Nf,Ng,Nh,Za,Zb,Zc,TT,k10,k8,eye_lt_nat,decide_eq_true hj']
      refine hK _ _ ?_;clear hK K
      refine wC fun X Y hX hY=>?_
      simp only [UP,DF,Nc,↓reduceIte,DB]
      refine hX ?_;clear hX hY X Y
      refine awp_skip ?_
      refine hK2 _ _ ?_;clear hK2 K2
      refine wK fun K3 hK3=>?_
      refine awp_block ?_
      have hge : (0 : Int)≤((j : Nat) : Int):=by omega
      have hat':=hat j hj'
      obtain ⟨hj2,hes⟩:=hNi j hj'
      have hen:=hent N[j]
      rw [hes] at hen
      have htk:=totE_take hj2
      have htl : totE (G.take j) + G[j].2.length≤totE G:=by
       rw [← htk]
       exact totE_pre _ _
      obtain ⟨o1,o2,o3,o4⟩:=hok _ (List.getElem_mem hj2)
      have ht0:=totE_nn (G.take j)
      generalize N[j] = g at *
      generalize G[j].2 = es at *
      unfold entsV at hen
      unfold bytesV at hen
      have hrow:=fun i (h : i < es.length)=>row_at (c:=EntV.cells) (k:=5) (fun _=>rfl) h
      generalize rowC EntV.cells es = X at *
      have e1 : iadd .i64 (totE (G.take j)) (es.length : Int) = totE (G.take (j + 1)):=by rw [iadd_i64 (by omega),htk]
      refine wS fun K hK=>?_
      simp only [↓DN,Qa,Qb,Qc,Qd,Qe,Qf,Qg,Qh,reduceCtorEq,↓reduceIte,Na,Nb,Nc,Nk,Nf,Ng,Nh,Za,Zb,Zc,TT,k3,k8,k10,hge,eye_lt_nat,hj',hat']
      refine acallk hen ?_
      rintro r s7 ⟨rfl,rfl⟩
      simp only [↓DM,pval,DX,Nz,↓DN,Qa,Qb,Qc,Qd,Qe,Qf,Qg,Qh,reduceCtorEq,↓reduceIte,Na,Nb,Nc,Nk,Nf,Ng,Nh,Za,Zb,Zc,TT]
      refine hK _ _ ?_;clear hK K
      refine wS fun K hK=>?_
      simp only [↓DN,Qa,Qb,Qc,Qd,Qe,Qf,Qg,Qh,reduceCtorEq,↓reduceIte,Na,Nb,Nc,Nk,Nf,Ng,Nh,Za,Zb,Zc,TT,k9,e1]
      refine hK _ _ ?_;clear hK K
      refine wK fun K4 hK4=>?_
      refine wS fun K hK=>?_
      simp only [↓DN,Qa,Qb,Qc,Qd,Qe,Qf,Qg,Qh,reduceCtorEq,↓reduceIte,Na,Nb,Nc,Nk,Nf,Ng,Nh,Za,Zb,Zc,TT]
      refine hK _ _ ?_;clear hK K
      refine awp_block ?_
      refine awp_loop (fun E s'=>∃ i : Nat,1≤i∧E 12 = .v (.int .i64 i)∧E 11 = .sl 5 es.length X .any∧E 8 = .sl 1 N.length XG .any∧E 9 = .v (.int .i64 (totE (G.take (j + 1))))∧E 10 = .v (.int .i64 j)∧E 3 = .ptr p 0∧s' = s7)
       (fun E _=>match E 12 with | .v (.int _ i)=>es.length - i.toNat | _=>0) ?_ ?_
      ·exact ⟨1,by omega,by simp only [upd,Nc,↓reduceIte]; rfl,by simp only [upd,Nc,↓reduceIte],by simp only [upd,k8,Nc,↓reduceIte],by simp only [upd,Nc,↓reduceIte],by simp only [upd,k10,Nc,↓reduceIte],by simp only [upd,k3,Nc,↓reduceIte],rfl⟩
      ·rintro E3 s8 ⟨i,hi1,m12,m11,m8,m9,m10,m3,rfl⟩ -
       refine wK fun K5 hK5=>?_
       by_cases hi' : i < es.length
       ·refine wS fun K hK=>?_
        simp only [↓DN,Qa,Qb,Qc,Qd,Qe,Qf,Qg,Qh,reduceCtorEq,↓reduceIte,Na,Nb,Nc,Nk,Nf,Ng,Nh,Za,Zb,Zc,TT,m12,m11,eye_lt_nat,decide_eq_true hi']
        refine hK _ _ ?_;clear hK K
        refine wC fun X Y hX hY=>?_
        simp only [UP,DF,Nc,↓reduceIte,DB]
        refine hX ?_;clear hX hY X Y
        refine awp_skip ?_
        refine hK5 _ _ ?_;clear hK5 K5
        refine wK fun K6 hK6=>?_
        refine awp_block ?_
        have hge2 : (0 : Int)≤((i : Nat) : Int):=by omega
        have hge3 : (0 : Int)≤((i - 1 : Nat) : Int):=by omega
        have hlt3 : i - 1 < es.length:=by omega
        have hb:=hrow i hi'
        have ha:=hrow (i - 1) hlt3
        have hx:=o3 (i - 1) (by omega)
        have ei : i - 1 + 1 = i:=by omega
        simp only [ei,nxE] at hx
        have ep : isub .i64 (i : Int) 1 = ((i - 1 : Nat) : Int):=by rw [dec_i64 (by omega) (by omega)]; omega
        have hz:=(o4 _ (List.getElem_mem hlt3)).2.2
        have hgo : ∀ E : Env,E 12 = .v (.int .i64 i)→E 11 = .sl 5 es.length X .any→E 8 = .sl 1 N.length XG .any→E 9 = .v (.int .i64 (totE (G.take (j + 1))))→E 10 = .v (.int .i64 j)→E 3 = .ptr p 0→K6 E s8:=by
         intro E m12' m11 m8 m9 m10 m3
         refine hK6 _ _ ?_;clear hK6 K6
         refine wE fun K hK=>?_
         simp only [↓DN,Qa,Qb,Qc,Qd,Qe,Qf,Qg,Qh,reduceCtorEq,↓reduceIte,Na,Nb,Nc,Nk,Nf,Ng,Nh,Za,Zb,Zc,TT,m12',eye_succM i (by omega)]
         refine hK _ _ ?_;clear hK K
         refine ⟨⟨i + 1,by omega,by simp only [upd,Nc,↓reduceIte],by simp only [upd,m11,Nc,↓reduceIte],by simp only [upd,m8,Nc,↓reduceIte],by simp only [upd,m9,Nc,↓reduceIte],by simp only [upd,m10,Nc,↓reduceIte],by simp only [upd,m3,Nc,↓reduceIte],rfl⟩,?_⟩
         simp only [m12,upd,↓reduceIte]
         omega
        clear hK6
        generalize es[i] = d at *
        generalize es[i - 1] = c at *
        obtain ⟨d1,d2,d3,d4,d5⟩:=d
        obtain ⟨c1,c2,c3,c4,c5⟩:=c
        unfold EntV.cells at ha hb
        simp only at ha hb hx hz
        obtain ⟨x1,x2,x3,x4⟩:=hx
        by_cases hk : d2 = 2
        ·refine awp_drw_seq T.mixed [] (by kernel_rfl) ?_
         intro K hK
         simp only [↓DM,pval,DX,Nz,↓DN,Qa,Qb,Qc,Qd,Qe,Qf,Qg,Qh,reduceCtorEq,↓reduceIte,Na,Nb,Nc,Nk,Nf,Ng,Nh,Za,Zb,Zc,TT,m12,m11,ep,hge2,hge3,eye_lt_nat,hi',hlt3,ha,hb,decide_eq_false (show ¬ d3≤c3 by omega),decide_eq_false (show ¬ d1≤c1 by omega),decide_eq_false (show ¬ d4 < c4 by omega),int_eq_yes hk,iadd_i64 (show -9223372036854775808≤c3 + 1∧c3 + 1≤9223372036854775807 by omega),int_bne_false (x4 hk)]
         refine hK _ _ ?_;clear hK K
         refine wC fun X Y hX hY=>?_
         simp only [UP,DF,Nc,↓reduceIte,DB]
         refine hY ?_;clear hX hY X Y
         refine awp_skip ?_
         simp only [blockQ,thenQ,if_true,if_false]
         exact hgo _ (by simp only [upd,m12,Nc,↓reduceIte]) (by simp only [upd,m11,Nc,↓reduceIte]) (by simp only [upd,m8,Nc,↓reduceIte]) (by simp only [upd,m9,Nc,↓reduceIte]) (by simp only [upd,m10,Nc,↓reduceIte]) (by simp only [upd,m3,Nc,↓reduceIte])
        ·refine awp_drw_seq T.mixed [] (by kernel_rfl) ?_
         intro K hK
         simp only [↓DM,pval,DX,Nz,↓DN,Qa,Qb,Qc,Qd,Qe,Qf,Qg,Qh,reduceCtorEq,↓reduceIte,Na,Nb,Nc,Nk,Nf,Ng,Nh,Za,Zb,Zc,TT,m12,m11,ep,hge2,hge3,eye_lt_nat,hi',hlt3,ha,hb,decide_eq_false (show ¬ d3≤c3 by omega),decide_eq_false (show ¬ d1≤c1 by omega),decide_eq_false (show ¬ d4 < c4 by omega),int_eq_no hk]
         refine hK _ _ ?_;clear hK K
         refine wC fun X Y hX hY=>?_
         simp only [UP,DF,Nc,↓reduceIte,DB]
         refine hY ?_;clear hX hY X Y
         refine awp_skip ?_
         simp only [blockQ,thenQ,if_true,if_false]
         exact hgo _ (by simp only [upd,m12,Nc,↓reduceIte]) (by simp only [upd,m11,Nc,↓reduceIte]) (by simp only [upd,m8,Nc,↓reduceIte]) (by simp only [upd,m9,Nc,↓reduceIte]) (by simp only [upd,m10,Nc,↓reduceIte]) (by simp only [upd,m3,Nc,↓reduceIte])
       ·refine wS fun K hK=>?_
        simp only [↓DN,Qa,Qb,Qc,Qd,Qe,Qf,Qg,Qh,reduceCtorEq,↓reduceIte,Na,Nb,Nc,Nk,Nf,Ng,Nh,Za,Zb,Zc,TT,m12,m11,eye_lt_nat,decide_eq_false hi']
        refine hK _ _ ?_;clear hK K
        refine wC fun X Y hX hY=>?_
        simp only [UP,DF,Nc,↓reduceIte,DB]
        refine hY ?_;clear hX hY X Y
        refine awp_exit ?_
        simp only [thenQ,blockQ,if_true]
        refine hK4 _ _ ?_;clear hK4 hK5 K5 K4
        have hl0 : 0 < es.length:=List.length_pos_iff.2 o1
        have e0 : ((es.length : Int) == 0) = false:=by rw [beq_eq_false_iff_ne]; omega
        have hb:=hrow 0 hl0
        have hk1:=o2 es[0] (by rw [List.head?_eq_getElem?,List.getElem?_eq_getElem hl0])
        generalize es[0] = d at *
        obtain ⟨d1,d2,d3,d4,d5⟩:=d
        unfold EntV.cells at hb
        simp only [Nat.zero_mul,List.drop_zero] at hb hk1
        subst hk1
        refine wS fun K hK=>?_
        simp only [↓DN,Qa,Qb,Qc,Qd,Qe,Qf,Qg,Qh,reduceCtorEq,↓reduceIte,Na,Nb,Nc,Nk,Nf,Ng,Nh,Za,Zb,Zc,TT,m11,e0,show (0 : Int) < (es.length : Int) by omega,hb,show ((1 : Int) != 1) = false from rfl]
        refine hK _ _ ?_;clear hK K
        refine wC fun X Y hX hY=>?_
        simp only [UP,DF,Nc,↓reduceIte,DB]
        refine hY ?_;clear hX hY X Y
        refine awp_skip ?_
        simp only [blockQ,thenQ,if_true,if_false]
        refine hK3 _ _ ?_;clear hK3 K3
        refine wE fun K hK=>?_
        simp only [↓DN,Qa,Qb,Qc,Qd,Qe,Qf,Qg,Qh,reduceCtorEq,↓reduceIte,Na,Nb,Nc,Nk,Nf,Ng,Nh,Za,Zb,Zc,TT,m10,eye_succM j (by omega)]
        refine hK _ _ ?_;clear hK K
        refine ⟨⟨j + 1,by omega,by simp only [upd,m8,Nc,↓reduceIte],by simp only [upd,m9,Nc,↓reduceIte],by simp only [upd,Nc,↓reduceIte],by simp only [upd,m3,Nc,↓reduceIte],rfl⟩,?_⟩
        simp only [k10,upd,↓reduceIte]
        omega
     ·refine wS fun K hK=>?_
      simp only [↓DN,Qa,Qb,Qc,Qd,Qe,Qf,Qg,Qh,reduceCtorEq,↓reduceIte,Na,Nb,Nc,Nk,Nf,Ng,Nh,Za,Zb,Zc,TT,k10,k8,eye_lt_nat,decide_eq_false hj']
      refine hK _ _ ?_;clear hK K
      refine wC fun X Y hX hY=>?_
      simp only [UP,DF,Nc,↓reduceIte,DB]
      refine hY ?_;clear hX hY X Y
      refine awp_exit ?_
      simp only [thenQ,blockQ,if_true]
      refine hK _ _ ?_;clear hK hK2 K2 K
      obtain rfl : j = N.length:=by omega
      rw [hNl,List.take_length] at k9
      refine wS fun K hK=>?_
      simp only [↓DN,Qa,Qb,Qc,Qd,Qe,Qf,Qg,Qh,reduceCtorEq,↓reduceIte,Na,Nb,Nc,Nk,Nf,Ng,Nh,Za,Zb,Zc,TT,k9,k3]
      refine acallk hcn ?_
      rintro r s7 ⟨rfl,rfl⟩
      simp only [↓DM,pval,DX,Nz,↓DN,Qa,Qb,Qc,Qd,Qe,Qf,Qg,Qh,reduceCtorEq,↓reduceIte,Na,Nb,Nc,Nk,Nf,Ng,Nh,Za,Zb,Zc,TT,decide_eq_true htot]
      refine hK _ _ ?_;clear hK K
      refine awp_ret ?_
      try simp only [thenQ,blockQ]
      simp only [retQ,AEnds,aresL,ares,List.toList_toArray,↓upd_same]; try simp only [UP,DF,Nc,↓reduceIte,DT]
      exact ⟨_,_,AV.weak.refl _,AS.le.refl _,rfl⟩
end Go.Proofs.Ytcjifoccjlpapaa
namespace Go.AM
open Go
theorem some_neO {s : AS} {p o : Nat} {cs : List AV} (h : s.objs p = some cs) (k : s.objs o = none) : p≠o:=by
  rintro rfl
  rw [h] at k
  cases k
structure Rd4 (s s1 : AS) (p o2 o3 o4 : Nat) (ce z cs ds : List AV) : Prop where
  rd : RdS s s1 p o2 o3 ce z cs
  obj : s1.objs o4 = some ds
  n4 : s.objs o4 = none
  p4 : p≠o4
  d2 : o2≠o4
  d3 : o3≠o4
theorem RdS.setNew {s s1 : AS} {p o2 o3 o4 : Nat} {ce z cs : List AV} (h : RdS s s1 p o2 o3 ce z cs) (h4 : s1.objs o4 = none) (ds : List AV) : Rd4 s (s1.set o4 ds) p o2 o3 o4 ce z cs ds:=by
  have hp : p≠o4:=by rintro rfl; rw [h.eye] at h4; cases h4
  have h2 : o2≠o4:=by rintro rfl; rw [h.res] at h4; cases h4
  have h3 : o3≠o4:=by rintro rfl; rw [h.var] at h4; cases h4
  have hn : (s.drop p).objs o4 = none:=by
    cases e : (s.drop p).objs o4 with
    | none=>rfl
    | some x=>have:=h.le.objs _ _ e; rw [h4] at this; cases this
  have hn' : s.objs o4 = none:=by simpa [AS.drop,upd,hp.symm] using hn
  refine ⟨⟨AS.le_set h.le hn _,?_,?_,?_,h.n2,h.n3,h.p2,h.p3,h.d⟩,AS.set_objs_same _ _ _,hn',hp,h2,h3⟩
  · rw [AS.set_objs_ne _ hp]; exact h.eye
  · rw [AS.set_objs_ne _ h2]; exact h.res
  · rw [AS.set_objs_ne _ h3]; exact h.var
theorem Rd4.gain {s s1 : AS} {p o2 o3 o4 : Nat} {ce z cs ds : List AV} (h : Rd4 s s1 p o2 o3 o4 ce z cs ds) {t : Nat} (ht : s.own t = none) (e : Nat) : Rd4 s (s1.gain t e) p o2 o3 o4 ce z cs ds :=
  ⟨h.rd.gain ht e,h.obj,h.n4,h.p4,h.d2,h.d3⟩
theorem own_none_le {a b : AS} (h : a.le b) {t : Nat} (k : b.own t = none) : a.own t = none:=by
  cases e : a.own t with
  | none=>rfl
  | some x=>rw [h.own t x e] at k; cases k
theorem RdS.fresh {s s1 : AS} {p o2 o3 o5 : Nat} {ce z cs : List AV} (h : RdS s s1 p o2 o3 ce z cs) (h5 : s1.objs o5 = none) (ds : List AV) : RdS s (s1.set o5 ds) p o2 o3 ce z cs:=(h.setNew h5 ds).rd
theorem Rd4.fresh {s s1 : AS} {p o2 o3 o4 o5 : Nat} {ce z cs ds : List AV} (h : Rd4 s s1 p o2 o3 o4 ce z cs ds) (h5 : s1.objs o5 = none) (es : List AV) : Rd4 s (s1.set o5 es) p o2 o3 o4 ce z cs ds :=
  ⟨h.rd.fresh h5 es,by rw [AS.set_objs_ne _ (some_neO h.obj h5)]; exact h.obj,h.n4,h.p4,h.d2,h.d3⟩
end Go.AM
namespace Go.AM
open Go
def lvT : List Nat:=[0,1,0,2,0,1,0,3,0,1,0,2,0,1,0,4,0,1,0,2,0,1,0,3,0,1,0,2,0,1,0,5,0,1,0,2,0,1,0,3,0,1,0,2,0,1,0,4,0,1,0,2,0,1,0,3,0,1,0,2,0,1,0]
def lv (n : Nat) : Nat:=lvT.getD n 0
def hf (n : Nat) : Nat:=2 ^ lv n / 2
def lo (n : Nat) : Nat:=(n - (2 ^ lv n - 1)) / 2
def hi (n : Nat) : Nat:=(n + (2 ^ lv n - 1)) / 2
def Fit (n : Nat) : Prop:=n = 1∨n = 2∨n = 4∨n = 8∨n = 16∨n = 32
instance (n : Nat) : Decidable (Fit n):=by unfold Fit; infer_instance
theorem Fit.le {n : Nat} (h : Fit n) : 1≤n∧n≤32:=by rcases h with h | h | h | h | h | h <;> omega
def fitI (x : Int) : Prop:=0≤x∧Fit x.toNat
instance (x : Int) : Decidable (fitI x):=by unfold fitI; infer_instance
def undI (x : Int) : Int × Int:=if 0≤x∧x < 63 then ((lo x.toNat : Int),(hi x.toNat : Int)) else (0,-1)
end Go.AM
namespace Go.AM
open Go
theorem eye_succM (i : Nat) (h : i < 9223372036854775807) : iadd .i64 (i : Int) 1 = ((i + 1 : Nat) : Int):=by
  rw [iadd_i64 (by omega)]; omega
end Go.AM
namespace Go.AM
open Go
def treeV (t : List NodeV) : AV:=.sl 5 t.length (rowC NodeV.cells t) .any
def TreeW (t : List NodeV) : Prop:=t.length≤2 ^ 61∧∀ n ∈ t,n.unm.length≤2 ^ 61∧n.key < 2 ^ 64
def nd (t : List NodeV) (i : Nat) : NodeV:=t.getD i NodeV.nought
theorem nd_get {t : List NodeV} {i : Nat} (h : i < t.length) : nd t i = t[i]:=by simp [nd,List.getD,h]
theorem TreeW.nd {t : List NodeV} (h : TreeW t) (i : Nat) : (nd t i).unm.length≤2 ^ 61∧(nd t i).key < 2 ^ 64:=by
  by_cases hi : i < t.length
  · rw [nd_get hi]; exact h.2 _ (List.getElem_mem hi)
  · have : Go.AM.nd t i = NodeV.nought:=by simp [Go.AM.nd,List.getD,show t.length≤i by omega]
    rw [this]
    exact ⟨by decide,by decide⟩
def lvs (t : List NodeV) : Nat:=if Fit ((t.length + 1) / 2)∧t.length = 2 * ((t.length + 1) / 2) - 1 then (t.length + 1) / 2 else 0
def memI (t : List NodeV) (i : Int) : Prop:=0≤i∧i < (lvs t : Int)∧(nd t (2 * i.toNat)).kind = 1
instance (t : List NodeV) (i : Int) : Decidable (memI t i):=by unfold memI; infer_instance
def memR (t : List NodeV) (i : Int) : Prop:=0≤i∧2 * i < (t.length : Int)∧(nd t (2 * i.toNat)).kind = 1
instance (t : List NodeV) (i : Int) : Decidable (memR t i):=by unfold memR; infer_instance
def cntN (P : Int→Prop) [DecidablePred P] (a : Nat) : Nat→Nat
  | 0=>0
  | k + 1=>cntN P a k + if P ((a + k : Nat) : Int) then 1 else 0
def hlf (t : List NodeV) : Nat:=(t.length + 1) / 2
def fitsT (t : List NodeV) (i : Nat) : Prop :=
  (nd t i).right∧((nd t i).kind = 0∨((nd t i).kind = 1↔i % 2 = 0))∧∀ u ∈ (nd t i).unm,(undI (i : Int)).1≤u∧u≤(undI (i : Int)).2∧memI t u
instance (t : List NodeV) (i : Nat) : Decidable (fitsT t i):=by unfold fitsT; infer_instance
def goodAt (t : List NodeV) (i : Nat) : Prop:=fitsT t i∧(i % 2 = 0→memI t ((i / 2 : Nat) : Int)→∀ j,j < hlf t→i / 2 < j→¬ (memI t (j : Int)∧(nd t (2 * j)).name = (nd t i).name))
def rightT (t : List NodeV) : Prop:=lvs t≠0∧(∀ i,i < t.length→goodAt t i)∧(lvs t = 1∨0 < cntN (memI t) (lvs t / 2) (lvs t - lvs t / 2))
instance (t : List NodeV) (i : Nat) : Decidable (goodAt t i):=by unfold goodAt; infer_instance
instance (t : List NodeV) : Decidable (rightT t):=by unfold rightT; infer_instance
end Go.AM
namespace Go.AM
open Go
theorem IsTy.tree {avs : List AV} (h : IsTy (.slice 5 (.struct (.cons tyI (.cons tyB (.cons (.int .u64) (.cons tyB (.cons (.slice 1 tyI) .nil))))))) avs) : ∃ t : List NodeV,avs = [treeV t]∧∀ n ∈ t,n.key < 2 ^ 64:=by
  obtain ⟨els,rfl,_,hall⟩:=IsTy.rows h
  have key : ∀ els : List (List AV),(∀ el ∈ els,el.length = 5∧IsTy (.struct (.cons tyI (.cons tyB (.cons (.int .u64) (.cons tyB (.cons (.slice 1 tyI) .nil)))))) el)→∃ t : List NodeV,els = t.map NodeV.cells∧∀ n ∈ t,n.key < 2 ^ 64:=by
    intro els
    induction els with
    | nil=>intro _; exact ⟨[],rfl,fun n hn=>by cases hn⟩
    | cons e els ih =>
      intro h
      obtain ⟨t,rfl,h2⟩:=ih (fun el hel=>h el (by simp [hel]))
      obtain ⟨_,h1⟩:=h e (by simp)
      obtain ⟨N,rfl,hN⟩:=IsTy.node h1
      refine ⟨N :: t,rfl,fun n hn=>?_⟩
      rcases List.mem_cons.1 hn with rfl | hn
      · exact hN
      · exact h2 n hn
  obtain ⟨t,rfl,h2⟩:=key els hall
  refine ⟨t,?_,h2⟩
  unfold treeV rowC
  rw [List.length_map]
end Go.AM
namespace Go.AM
open Go
theorem IsTy.records {avs : List AV} (h : IsTy (.slice 9 (.struct (.cons tyI (.cons tyB (.cons tyI (.cons tyI (.cons tyI (.cons tyB (.cons tyB (.cons tyB (.cons tyB .nil))))))))))) avs) : ∃ l : List Rec,avs = [.sl 9 l.length (rowC Rec.cells l) .any]:=by
  obtain ⟨els,rfl,_,hall⟩:=IsTy.rows h
  have key : ∀ els : List (List AV),(∀ el ∈ els,el.length = 9∧IsTy (.struct (.cons tyI (.cons tyB (.cons tyI (.cons tyI (.cons tyI (.cons tyB (.cons tyB (.cons tyB (.cons tyB .nil)))))))))) el)→∃ l : List Rec,els = l.map Rec.cells:=by
    intro els
    induction els with
    | nil=>intro _; exact ⟨[],rfl⟩
    | cons e els ih =>
      intro h
      obtain ⟨l,rfl⟩:=ih (fun el hel=>h el (by simp [hel]))
      obtain ⟨_,h1⟩:=h e (by simp)
      obtain ⟨a,rfl⟩:=IsTy.record h1
      exact ⟨a :: l,rfl⟩
  obtain ⟨l,rfl⟩:=key els hall
  refine ⟨l,?_⟩
  unfold rowC
  rw [List.length_map]
end Go.AM
