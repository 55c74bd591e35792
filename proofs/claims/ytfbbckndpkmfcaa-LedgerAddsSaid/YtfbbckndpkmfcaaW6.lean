/- Contracts of the program's functions, each walked once; the conditions stand in each theorem. -/
import Derived.Test.YtfbbckndpkmfcaaAMp6
import Derived.Test.YtfbbckndpkmfcaaW1
import Derived.Test.YtfbbckndpkmfcaaW5
import Derived.Test.YtfbbckndpkmfcaaAMp7
import Derived.Test.YtfbbckndpkmfcaaW3
set_option linter.unusedSimpArgs false
set_option linter.unusedVariables false
open Nat renaming reduceLT → Na, reduceLeDiff → Nb, reduceEqDiff → Nc, reduceAdd → Nk, reduceMul → Nf, reducePow → Ng, reduceSub → Nh, reduceBEq → Nz
open Int renaming reduceLT → Za, reduceLE → Zb, reduceToNat → Zc
open Go.AM renaming ashift → Qa, aconv → Qb, aindexAddr → Qc, aindex → Qd, aslice → Qe, abuiltin → Qf, awp_reg_seq → wS, awp_reg_end → wE, awp_seq_k → wK, awp_cond_k → wC
open Go.AM.AV renaming cells → Qg, one → Qh
set_option maxRecDepth 100000
set_option maxHeartbeats 8000000
set_option autoImplicit false
namespace Go.Proofs.Ytfbbckndpkmfcaa
open Go Go.AM Go.Proofs
variable {Γ : Nat→List AV}
theorem ledS_more {s0 s s' : AS} {p : Nat} {L : LedV} {gs : List GEnt} {gt ge b1 b2 : Nat} (h : LedS s0 s p L gs gt ge b1 b2) (k : s.le s') : LedS s0 s' p L gs gt ge b1 b2 :=
 { h with obj:=k.objs _ _ h.obj,m1:=k.maps _ _ h.m1,m2:=k.maps _ _ h.m2,own:=fun x hx=>⟨k.own _ _ (h.own x hx).1,(h.own x hx).2⟩,gown:=fun q=>⟨k.own _ _ (h.gown q).1,(h.gown q).2⟩,le:=h.le.trans k }
theorem totE_ge0 : ∀ {l : GrpV},(∀ q ∈ l,q.2≠[])→(l.length : Int)≤totE l
 | [],_=>by simp [totE]
 | (k,es) :: l,h=>by
  have:=totE_ge0 fun q hq=>h q (List.mem_cons_of_mem _ hq)
  have h1 : es≠[]:=h (k,es) List.mem_cons_self
  have:=List.length_pos_iff.2 h1
  simp only [totE,List.length_cons]
  omega
theorem totE_geN {L : LedV} (h : L.rises) : (L.gs.length : Int)≤totE L.gs:=totE_ge0 fun q hq=>(h.2.1 q hq).1
theorem totG_tot {gs : List GEnt} : totE (gs.map GEnt.val) = (totG gs : Nat):=by
 induction gs with
 | nil=>rfl
 | cons x gs ih =>
  unfold totG at *
  simp only [List.map_cons,GEnt.val,totE,List.sum_cons] at ih ⊢
  rw [ih]
  omega
theorem ledBucketsR_calls {s0 s : AS} {p : Nat} {L : LedV} {gs : List GEnt} {gt ge b1 b2 : Nat} (h : LedS s0 s p L gs gt ge b1 b2) {l : List Rec} (hr : Rep L l) (hl : l.length≤2 ^ 30) :
  ACalls Try.prog Γ 31 [.ptr p 0] s (fun r s'=>r = intsV (bktsR l) .any∧s' = s):=by
 have h1:=hr.rises.2.2.1
 rw [h.val,totG_tot,hr.count] at h1
 have h2 : gs.length≤totG gs:=by
  have:=totE_geN hr.rises
  rw [h.val,totG_tot] at this
  simpa using this
 refine (ledBuckets_calls (Γ:=Γ) h (by omega) (by omega)).use ?_
 rintro r s' ⟨⟨KL,k1,k2,rfl⟩,rfl⟩
 refine ⟨?_,rfl⟩
 rw [hr.buckets k1 fun b=>?_]
 rw [k2,h.val]
 constructor
 ·rintro ⟨x,hx,e,he,q⟩
  exact ⟨_,List.mem_map_of_mem hx,e,he,q⟩
 ·rintro ⟨q,hq,e,he,k⟩
  obtain ⟨x,hx,rfl⟩:=List.mem_map.1 hq
  exact ⟨x,hx,e,he,k⟩
theorem insB_len (b : Int) (out : List Int) : (insB b out).length≤out.length + 1:=by
 have h:=congrArg List.length (List.takeWhile_append_dropWhile (p:=fun x=>decide (x < b)) (l:=out))
 rw [List.length_append] at h
 unfold insB
 rw [List.length_append,List.length_cons]
 split
 ·rw [List.length_tail]; omega
 ·omega
theorem bkts_len (l0 : List Rec) : ∀ (l : List Rec) (out : List Int),(l.foldl (bktAdd l0) out).length≤out.length + l.length
 | [],out=>by simp
 | r :: l,out=>by
  have ih:=bkts_len l0 l (bktAdd l0 out r)
  have : (bktAdd l0 out r).length≤out.length + 1:=by
   unfold bktAdd
   split
   ·omega
   ·exact insB_len _ _
  rw [List.foldl_cons,List.length_cons]
  omega
theorem find_at {l : List EntV} (h : chainE l) {k : Nat} (hk : k < l.length) : findE l[k].epoch l = some l[k]:=by
 have hlt : ∀ d i,(h1 : i + d + 1 < l.length)→l[i].epoch < (l[i + d + 1]'h1).epoch:=by
  intro d
  induction d with
  | zero=>intro i h1; exact (h i h1).1
  | succ d ih =>
   intro i h1
   have a:=ih i (by omega)
   have b:=(h (i + d + 1) (by omega)).1
   have : i + (d + 1) + 1 = i + d + 1 + 1:=by omega
   simp only [this]
   omega
 unfold findE
 rw [List.find?_eq_some_iff_getElem]
 refine ⟨by simp,k,hk,rfl,fun j hj=>?_⟩
 have:=hlt (k - j - 1) j (by omega)
 have e : j + (k - j - 1) + 1 = k:=by omega
 simp only [e] at this
 simp only [Bool.not_eq_eq_eq_not,Bool.not_true,decide_eq_false_iff_not]
 omega
theorem tells_calls {s0 s : AS} {p q : Nat} {L : LedV} {gs : List GEnt} {gt ge b1 b2 : Nat} (h : LedS s0 s p L gs gt ge b1 b2) {l : List Rec} (hr : Rep L l) (hq : s.objs q = some [recsV l]) (hl : l.length≤2 ^ 30) (other : List UInt8) :
  ACalls Try.prog Γ 12 [.ptr p 0,.ptr q 0,.v (.string ⟨other.toArray⟩)] s (fun r s'=>r = .v (.bool true)∧s' = s):=by
 refine tidyL (Q:=fun r=>r = .v (.bool true)) ?_
 refine acalls_body Try.func12 rfl Try.ntmps12 Try.results12 (by simp) ?_
 refine wS fun K hK=>?_
 simp only [↓DN,Qa,Qb,Qc,Qd,Qe,Qf,Qg,Qh,reduceCtorEq,↓reduceIte,Na,Nb,Nc,Nk,Nf,Ng,Nh,Za,Zb,Zc,TT]
 refine hK _ _ ?_;clear hK K
 refine wS fun K hK=>?_
 simp only [↓DN,Qa,Qb,Qc,Qd,Qe,Qf,Qg,Qh,reduceCtorEq,↓reduceIte,Na,Nb,Nc,Nk,Nf,Ng,Nh,Za,Zb,Zc,TT]
 refine acallk (refGroups_calls hq (by omega)) ?_
 rintro r s1 ⟨⟨x,hx,rfl⟩,hle⟩
 simp only [↓DM,pval,DX,Nz,↓DN,Qa,Qb,Qc,Qd,Qe,Qf,Qg,Qh,reduceCtorEq,↓reduceIte,Na,Nb,Nc,Nk,Nf,Ng,Nh,Za,Zb,Zc,TT]
 refine hK _ _ ?_;clear hK K
 have h1:=ledS_more h hle
 have hq1:=hle.objs _ _ hq
 obtain ⟨N,hN⟩ : ∃ N,N = grpsR l:=⟨_,rfl⟩
 have hgl : gs.length≤totG gs:=by
  have:=totE_geN hr.rises
  rw [h.val,totG_tot] at this
  simpa using this
 have htot:=hr.rises.2.2.1
 rw [h.val,totG_tot,hr.count] at htot
 have hNl : N.length≤2 ^ 30:=by
  have e1 : N.length = gs.length:=by rw [hN,← hr.grps,List.length_map,h.val,List.length_map]
  omega
 have hcn:=ledCount_calls (Γ:=Γ) h1
 have htm:=ledTime_calls (Γ:=Γ) h1
 have hrt:=refTime_calls (Γ:=Γ) hq1 (by omega)
 have hgr:=ledGroups_calls (Γ:=Γ) h1 (by omega)
 have hbk:=ledBucketsR_calls (Γ:=Γ) h1 hr hl
 have hrb:=refBuckets_calls (Γ:=Γ) hq1 (by omega)
 have htx:=texts_calls (Γ:=Γ) N hNl s1
 rw [hr.grps,← hN] at hgr
 rw [hr.count] at hcn
 rw [hr.time] at htm
 rw [← hN] at hx
 have hsm:=ACalls.weaks (.cons (AV.weak.refl _) (.cons hx.weak .nil)) (refSame01_calls (Γ:=Γ) N N (by omega) s1)
 have hbl : (bktsR l).length≤2 ^ 61:=by
  have:=bkts_len l l []
  unfold bktsR
  simp only [List.length_nil] at this
  omega
 have hin:=refInts_calls (Γ:=Γ) (bktsR l) (bktsR l) hbl s1
 rw [decide_eq_true rfl] at hsm hin
 obtain ⟨X,hX⟩ : ∃ X,X = rowC Rec.cells l:=⟨_,rfl⟩
 have hoq : s1.objs q = some [.sl 9 l.length X .any]:=by rw [hX]; exact hq1
 have f1 : ((l.length : Int) != (l.length : Int)) = false:=int_bne_false rfl
 have f2 : (timeR l != timeR l) = false:=int_bne_false rfl
 have hk1 : rowC Rec.cells l = X:=hX.symm
 refine wK fun K hK=>?_
 refine awp_drs_seq T.mixed [] [(1,.v (.int .i64 l.length)),(5,.sl 9 l.length X .any),(10,.v (.int .i64 (timeR l))),(12,.v (.int .i64 (timeR l))),(17,grpsV N),(18,strsV N),(20,.v (.bool true)),(25,intsV (bktsR l) .any),(27,intsV (bktsR l) .any),(28,.v (.bool true))] [0,1,2,3,4,5,6,7,8,9,10,11,12,13,14,15,16,17,18,19,20,21,22,23,24,25,26,27,28,29,30] (by kernel_rfl) ?_
 intro K hK
 simp only [↓AXw_nil,↓AXw_cons,↓AGivS_call,↓AGivS_load,glook_nil,glook_cons,gokB,pval,DX,Nat.reduceBEq,List.toList_toArray,List.map_cons,List.map_nil,aeval,↓DN,Qa,Qb,Qc,Qd,Qe,Qf,Qg,Qh,reduceCtorEq,↓reduceIte,Na,Nb,Nc,Nk,Nf,Ng,Nh,Za,Zb,Zc,TT,hoq,f1,f2]
 refine agivs hcn (agivs htm (agivs hrt (agivs hgr (agivs htx (agivs hsm (agivs hbk (agivs hrb (agivs hin ?_))))))))
 refine hK _ _ ?_
 clear hK
 refine wC fun X Y hX hY=>?_
 simp only [UP,DF,Nc,↓reduceIte,DB]
 refine hY ?_;clear hX hY X Y
 refine awp_skip ?_
 rename_i hK
 refine hK _ _ ?_
 clear hK
 obtain ⟨M,hM⟩ : ∃ M,M = N ++ [other]:=⟨_,rfl⟩
 have hMl : M.length = N.length + 1:=by rw [hM]; simp
 refine wK fun K hK=>?_
 have hJ : ∀ (E : Env) (s2 : AS) (t e : Nat),E 7 = .sl 1 M.length (M.map strC) (.own t e)→E 0 = .ptr p 0→E 1 = .ptr q 0→s.le s2→K E s2:=by
  intro E s2 t e g7 g0 g1 hle2
  refine hK _ _ ?_;clear hK K hcn htm hrt hgr hbk hrb htx hsm hin hx hoq hq1 h1 hle
  refine wK fun K hK=>?_
  refine wS fun K hK=>?_
  simp only [↓DN,Qa,Qb,Qc,Qd,Qe,Qf,Qg,Qh,reduceCtorEq,↓reduceIte,Na,Nb,Nc,Nk,Nf,Ng,Nh,Za,Zb,Zc,TT]
  refine hK _ _ ?_;clear hK K
  refine awp_block ?_
  refine awp_loop (fun E s'=>∃ j : Nat,j≤M.length∧E 8 = .v (.int .i64 j)∧E 7 = .sl 1 M.length (M.map strC) (.own t e)∧E 0 = .ptr p 0∧E 1 = .ptr q 0∧s.le s')
   (fun E _=>match E 8 with | .v (.int _ i)=>M.length - i.toNat | _=>0) ?_ ?_
  ·exact ⟨0,Nat.zero_le _,by simp only [upd,↓reduceIte]; rfl,by simp only [upd,g7,Nc,↓reduceIte],by simp only [upd,g0,Nc,↓reduceIte],by simp only [upd,g1,Nc,↓reduceIte],hle2⟩
  clear g7 g0 g1 hle2
  rintro E1 s3 ⟨j,hj,g8,g7,g0,g1,hle⟩ -
  refine wK fun K2 hK2=>?_
  by_cases hj' : j < M.length
  ·refine wS fun K hK=>?_
   simp only [↓DN,Qa,Qb,Qc,Qd,Qe,Qf,Qg,Qh,reduceCtorEq,↓reduceIte,Na,Nb,Nc,Nk,Nf,Ng,Nh,Za,Zb,Zc,TT,g8,g7,eye_lt_nat,decide_eq_true hj']
   refine hK _ _ ?_;clear hK K
   refine wC fun X Y hX hY=>?_
   simp only [UP,DF,Nc,↓reduceIte,DB]
   refine hX ?_;clear hX hY X Y
   refine awp_skip ?_
   refine hK2 _ _ ?_;clear hK2 K2
   refine wK fun K3 hK3=>?_
   refine awp_block ?_
   have hge : (0 : Int)≤((j : Nat) : Int):=by omega
   have hat:=take_map strC hj'
   have hend : ∀ (E : Env) (s4 : AS),E 8 = .v (.int .i64 j)→E 7 = .sl 1 M.length (M.map strC) (.own t e)→E 0 = .ptr p 0→E 1 = .ptr q 0→s.le s4→K3 E s4:=by
    intro E s4 f8 f7 f0 f1 fle
    refine hK3 _ _ ?_;clear hK3 K3
    refine wE fun K hK=>?_
    simp only [↓DN,Qa,Qb,Qc,Qd,Qe,Qf,Qg,Qh,reduceCtorEq,↓reduceIte,Na,Nb,Nc,Nk,Nf,Ng,Nh,Za,Zb,Zc,TT,f8,eye_succM j (by omega)]
    refine hK _ _ ?_;clear hK K
    refine ⟨⟨j + 1,hj',by simp only [upd,Nc,↓reduceIte],by simp only [upd,f7,Nc,↓reduceIte],by simp only [upd,f0,Nc,↓reduceIte],by simp only [upd,f1,Nc,↓reduceIte],fle⟩,?_⟩
    simp only [g8,upd,↓reduceIte]
    omega
   clear hK3
   generalize M[j] = g at *
   generalize hXM : M.map strC = XM at *
   unfold strC at hat
   have h3:=ledS_more h hle
   have hq3:=hle.objs _ _ hq
   have hen:=refEntries_calls (Γ:=Γ) hq3 (by omega) g
   refine wS fun K hK=>?_
   simp only [↓DN,Qa,Qb,Qc,Qd,Qe,Qf,Qg,Qh,reduceCtorEq,↓reduceIte,Na,Nb,Nc,Nk,Nf,Ng,Nh,Za,Zb,Zc,TT,g1,g7,g8,hge,eye_lt_nat,hj',hat]
   refine acallk hen ?_
   rintro r s4 ⟨rfl,rfl⟩
   simp only [↓AXq_nil,↓AXq_cons,pval,↓AXw_nil,↓AXw_cons,↓AGivS_call,↓AGivS_load,glook_nil,glook_cons,gokB,pval,DX,Nat.reduceBEq,List.toList_toArray,List.map_cons,List.map_nil,aeval,DX,Nat.reduceBEq,↓DN,Qa,Qb,Qc,Qd,Qe,Qf,Qg,Qh,reduceCtorEq,↓reduceIte,Na,Nb,Nc,Nk,Nf,Ng,Nh,Za,Zb,Zc,TT]
   refine hK _ _ ?_;clear hK K
   have hin:=hr.rises.inv (by rw [hr.count]; omega)
   have hle':=ledEntries_calls (Γ:=Γ) h3 hin g
   have hla:=ledLast_calls (Γ:=Γ) h3 (hin.gs h.val) g
   rw [hr.ents] at hle' hla
   have hW : entsR g l = []∨okE L (entsR g l):=by
    rw [← hr.ents]
    rcases entsOf_mem (g:=g) (l:=L.gs) with a | ⟨y,a,_,b⟩
    ·exact .inl a
    ·exact .inr (by rw [← b]; exact hr.rises.2.1 y a)
   have hWl : (entsR g l).length≤2 ^ 30:=by
    have : (entsR g l).length≤l.length:=by
     unfold entsR
     rw [List.length_map]
     exact Nat.le_trans (List.length_filter_le _ _) (by simp)
    omega
   have hfi:=fun (s' : AS) (k : s.le s') ep=>ledFind_calls (Γ:=Γ) (ledS_more h k) (hin.gs h.val) g ep
   simp only [hr.ents] at hfi
   generalize entsR g l = Wn at *
   have hsm:=refSame28_calls (Γ:=Γ) Wn Wn (by omega) s4
   rw [decide_eq_true rfl] at hsm
   refine wK fun K hK=>?_
   refine wS fun K hK=>?_
   simp only [↓DN,Qa,Qb,Qc,Qd,Qe,Qf,Qg,Qh,reduceCtorEq,↓reduceIte,Na,Nb,Nc,Nk,Nf,Ng,Nh,Za,Zb,Zc,TT,g0,g7,g8,hge,eye_lt_nat,hj',hat]
   refine acallk (ACalls.weaks (.cons (AV.weak.refl _) (.cons AV.weak_any .nil)) hle') ?_
   rintro r s5 ⟨rfl,rfl⟩
   simp only [↓DM,pval,DX,Nz,↓DN,Qa,Qb,Qc,Qd,Qe,Qf,Qg,Qh,reduceCtorEq,↓reduceIte,Na,Nb,Nc,Nk,Nf,Ng,Nh,Za,Zb,Zc,TT]
   refine acallk hsm ?_
   rintro r s6 ⟨rfl,rfl⟩
   simp only [↓DM,pval,DX,Nz,↓DN,Qa,Qb,Qc,Qd,Qe,Qf,Qg,Qh,reduceCtorEq,↓reduceIte,Na,Nb,Nc,Nk,Nf,Ng,Nh,Za,Zb,Zc,TT]
   refine hK _ _ ?_;clear hK K
   refine wC fun X Y hX hY=>?_
   simp only [UP,DF,Nc,↓reduceIte,DB]
   refine hY ?_;clear hX hY X Y
   refine awp_skip ?_
   refine hK _ _ ?_;clear hK K
   have hrow:=fun i (h : i < Wn.length)=>row_at (c:=EntV.cells) (k:=5) (fun _=>rfl) h
   obtain ⟨XW,hXW⟩ : ∃ XW,XW = rowC EntV.cells Wn:=⟨_,rfl⟩
   rw [← hXW] at hrow
   have hents : entsV Wn = .sl 5 Wn.length XW .any:=by rw [hXW]; rfl
   rw [hents]
   obtain ⟨le,hlee⟩ : ∃ le,le = lastE Wn:=⟨_,rfl⟩
   obtain ⟨bW,hbW⟩ : ∃ b,b = decide (Wn≠[]):=⟨_,rfl⟩
   rw [← hlee,← hbW] at hla
   have hne0:=entNe le le
   obtain ⟨a1,a2,a3,a4,a5⟩:=le
   unfold EntV.cells at hla hne0
   simp only [ne_eq,not_true_eq_false,decide_false] at hla hne0
   refine wS fun K hK=>?_
   simp only [↓DN,Qa,Qb,Qc,Qd,Qe,Qf,Qg,Qh,reduceCtorEq,↓reduceIte,Na,Nb,Nc,Nk,Nf,Ng,Nh,Za,Zb,Zc,TT,g0,g7,g8,hge,eye_lt_nat,hj',hat]
   refine acallk (ACalls.weaks (.cons (AV.weak.refl _) (.cons AV.weak_any .nil)) hla) ?_
   rintro r s7 ⟨rfl,rfl⟩
   simp only [↓DM,pval,DX,Nz,↓DN,Qa,Qb,Qc,Qd,Qe,Qf,Qg,Qh,reduceCtorEq,↓reduceIte,Na,Nb,Nc,Nk,Nf,Ng,Nh,Za,Zb,Zc,TT]
   intro o10 q10
   refine hK _ _ ?_;clear hK K
   have hl8:=AS.le_set hle (AS.le_none hle q10) [.v (.int .i64 a1),.v (.int .i64 a2),.v (.int .i64 a3),.v (.int .i64 a4),.v (.int .i64 a5)]
   have ho10:=AS.set_objs_same s7 o10 [.v (.int .i64 a1),.v (.int .i64 a2),.v (.int .i64 a3),.v (.int .i64 a4),.v (.int .i64 a5)]
   generalize s7.set o10 [.v (.int .i64 a1),.v (.int .i64 a2),.v (.int .i64 a3),.v (.int .i64 a4),.v (.int .i64 a5)] = s8 at hl8 ho10 ⊢
   refine wK fun K hK=>?_
   have hJ2 : ∀ (E : Env),E 9 = .sl 5 Wn.length XW .any→E 8 = .v (.int .i64 j)→E 7 = .sl 1 M.length XM (.own t e)→E 0 = .ptr p 0→E 1 = .ptr q 0→K E s8:=by
    intro E k9 k8 k7 k0 k1
    refine hK _ _ ?_;clear hK K
    refine wK fun K hK=>?_
    refine wS fun K hK=>?_
    simp only [↓DN,Qa,Qb,Qc,Qd,Qe,Qf,Qg,Qh,reduceCtorEq,↓reduceIte,Na,Nb,Nc,Nk,Nf,Ng,Nh,Za,Zb,Zc,TT]
    refine hK _ _ ?_;clear hK K
    refine awp_block ?_
    refine awp_loop (fun E s'=>∃ k : Nat,k≤Wn.length∧E 12 = .v (.int .i64 k)∧E 9 = .sl 5 Wn.length XW .any∧E 8 = .v (.int .i64 j)∧E 7 = .sl 1 M.length XM (.own t e)∧E 0 = .ptr p 0∧E 1 = .ptr q 0∧s.le s')
     (fun E _=>match E 12 with | .v (.int _ i)=>Wn.length - i.toNat | _=>0) ?_ ?_
    ·exact ⟨0,Nat.zero_le _,by simp only [upd,↓reduceIte]; rfl,by simp only [upd,k9,Nc,↓reduceIte],by simp only [upd,k8,Nc,↓reduceIte],by simp only [upd,k7,Nc,↓reduceIte],by simp only [upd,k0,Nc,↓reduceIte],by simp only [upd,k1,Nc,↓reduceIte],hl8⟩
    clear k9 k8 k7 k0 k1
    rintro E2 s9 ⟨k,hk,k12,k9,k8,k7,k0,k1,hl9⟩ -
    refine wK fun K2 hK2=>?_
    by_cases hk' : k < Wn.length
    ·refine wS fun K hK=>?_
     simp only [↓DN,Qa,Qb,Qc,Qd,Qe,Qf,Qg,Qh,reduceCtorEq,↓reduceIte,Na,Nb,Nc,Nk,Nf,Ng,Nh,Za,Zb,Zc,TT,k12,k9,eye_lt_nat,decide_eq_true hk']
     refine hK _ _ ?_;clear hK K
     refine wC fun X Y hX hY=>?_
     simp only [UP,DF,Nc,↓reduceIte,DB]
     refine hX ?_;clear hX hY X Y
     refine awp_skip ?_
     refine hK2 _ _ ?_;clear hK2 K2
     refine wK fun K4 hK4=>?_
     refine awp_block ?_
     have hgk : (0 : Int)≤((k : Nat) : Int):=by omega
     have hck : chainE Wn:=by
      rcases hW with rfl | hok
      ·cases hk'
      ·exact hok.2.2.1
     have hfk:=fun s' (k' : s.le s')=>hfi s' k' Wn[k].epoch
     simp only [find_at hck hk'] at hfk
     have hrk:=hrow k hk'
     have hnk:=entNe Wn[k] Wn[k]
     generalize Wn[k] = d at *
     obtain ⟨d1,d2,d3,d4,d5⟩:=d
     unfold EntV.cells at hrk hfk hnk
     simp only [ne_eq,not_true_eq_false,decide_false,Option.getD_some,Option.isSome_some] at hrk hfk hnk
     refine awp_drs2_seq T.mixed [11,15,16] [] 11 15 [0,1,2,3,4,5,6,7,8,9,10,11,12,13,14,15,16,17] [0,1,2,3,4,5,6,7,8,9,10,15,11,12,13,14,16,17] (by kernel_rfl) ?_
     intro K hK
     have hJ3 : ∀ (E : Env) (s10 : AS) (o13 : Nat),E 13 = .ptr o13 0→E 14 = .v (.bool true)→s10.objs o13 = some [.v (.int .i64 d1),.v (.int .i64 d2),.v (.int .i64 d3),.v (.int .i64 d4),.v (.int .i64 d5)]→E 12 = .v (.int .i64 k)→E 9 = .sl 5 Wn.length XW .any→E 8 = .v (.int .i64 j)→E 7 = .sl 1 M.length XM (.own t e)→E 0 = .ptr p 0→E 1 = .ptr q 0→s.le s10→K E s10:=by
      intro E s10 o13 k13 k14 ho13 k12' k9 k8 k7 k0 k1 hl10
      refine hK _ _ ?_;clear hK K
      refine awp_drw_seq T.mixed [3] (by kernel_rfl) ?_
      intro K hK
      simp only [↓AXq_nil,↓AXq_cons,pval,↓AXw_nil,↓AXw_cons,↓AGivS_call,↓AGivS_load,glook_nil,glook_cons,gokB,pval,DX,Nat.reduceBEq,List.toList_toArray,List.map_cons,List.map_nil,aeval,DX,Nat.reduceBEq,↓DN,Qa,Qb,Qc,Qd,Qe,Qf,Qg,Qh,reduceCtorEq,↓reduceIte,Na,Nb,Nc,Nk,Nf,Ng,Nh,Za,Zb,Zc,TT,k14,k13,ho13,k9,k12',hgk,eye_lt_nat,hk',hrk,hnk]
      refine hK _ _ ?_;clear hK K
      refine wC fun X Y hX hY=>?_
      simp only [UP,DF,Nc,↓reduceIte,DB]
      refine hY ?_;clear hX hY X Y
      refine awp_skip ?_
      simp only [blockQ,thenQ]
      refine hK4 _ _ ?_;clear hK4 K4
      refine wE fun K hK=>?_
      simp only [↓DN,Qa,Qb,Qc,Qd,Qe,Qf,Qg,Qh,reduceCtorEq,↓reduceIte,Na,Nb,Nc,Nk,Nf,Ng,Nh,Za,Zb,Zc,TT,k12',eye_succM k (by omega)]
      refine hK _ _ ?_;clear hK K
      refine ⟨⟨k + 1,hk',by simp only [upd,Nc,↓reduceIte],by simp only [upd,k9,Nc,↓reduceIte],by simp only [upd,k8,Nc,↓reduceIte],by simp only [upd,k7,Nc,↓reduceIte],by simp only [upd,k0,Nc,↓reduceIte],by simp only [upd,k1,Nc,↓reduceIte],hl10⟩,?_⟩
      simp only [k12,upd,↓reduceIte]
      omega
     refine ⟨?_,?_⟩
     ·simp only [↓AXw_nil,↓AXw_cons,↓AGivS_call,↓AGivS_load,glook_nil,glook_cons,gokB,pval,DX,Nat.reduceBEq,List.toList_toArray,List.map_cons,List.map_nil,aeval,↓DN,Qa,Qb,Qc,Qd,Qe,Qf,Qg,Qh,reduceCtorEq,↓reduceIte,Na,Nb,Nc,Nk,Nf,Ng,Nh,Za,Zb,Zc,TT,k0,k7,k8,k9,k12,hge,hgk,eye_lt_nat,hj',hk',hat,hrk]
      refine acallk (ACalls.weaks (.cons (AV.weak.refl _) (.cons AV.weak_any (.cons (AV.weak.refl _) .nil))) (hfk _ hl9)) ?_
      rintro r s10 ⟨rfl,rfl⟩
      simp only [↓AXq_nil,↓AXq_cons,pval,↓AXw_nil,↓AXw_cons,↓AGivS_call,↓AGivS_load,glook_nil,glook_cons,gokB,pval,DX,Nat.reduceBEq,List.toList_toArray,List.map_cons,List.map_nil,aeval,DX,Nat.reduceBEq,↓DN,Qa,Qb,Qc,Qd,Qe,Qf,Qg,Qh,reduceCtorEq,↓reduceIte,Na,Nb,Nc,Nk,Nf,Ng,Nh,Za,Zb,Zc,TT]
      intro o13 q13
      exact hJ3 _ _ o13 (by simp only [upd,Nc,↓reduceIte]) (by simp only [upd,Nc,↓reduceIte]) (AS.set_objs_same _ _ _) (by simp only [upd,k12,Nc,↓reduceIte]) (by simp only [upd,k9,Nc,↓reduceIte]) (by simp only [upd,k8,Nc,↓reduceIte]) (by simp only [upd,k7,Nc,↓reduceIte]) (by simp only [upd,k0,Nc,↓reduceIte]) (by simp only [upd,k1,Nc,↓reduceIte]) (AS.le_set hl9 (AS.le_none hl9 q13) _)
     ·simp only [↓AXw_nil,↓AXw_cons,↓AGivS_call,↓AGivS_load,glook_nil,glook_cons,gokB,pval,DX,Nat.reduceBEq,List.toList_toArray,List.map_cons,List.map_nil,aeval,↓DN,Qa,Qb,Qc,Qd,Qe,Qf,Qg,Qh,reduceCtorEq,↓reduceIte,Na,Nb,Nc,Nk,Nf,Ng,Nh,Za,Zb,Zc,TT,k0,k7,k8,k9,k12,hge,hgk,eye_lt_nat,hj',hk',hat,hrk]
      intro o13 q13
      have hl10:=fun z=>AS.le_set hl9 (AS.le_none hl9 q13) z
      refine acallk (ACalls.weaks (.cons (AV.weak.refl _) (.cons AV.weak_any (.cons (AV.weak.refl _) .nil))) (hfk _ (hl10 _))) ?_
      rintro r s10 ⟨rfl,rfl⟩
      simp only [↓AXq_nil,↓AXq_cons,pval,↓AXw_nil,↓AXw_cons,↓AGivS_call,↓AGivS_load,glook_nil,glook_cons,gokB,pval,DX,Nat.reduceBEq,List.toList_toArray,List.map_cons,List.map_nil,aeval,DX,Nat.reduceBEq,↓DN,Qa,Qb,Qc,Qd,Qe,Qf,Qg,Qh,reduceCtorEq,↓reduceIte,Na,Nb,Nc,Nk,Nf,Ng,Nh,Za,Zb,Zc,TT,AS.set_objs_same]
      exact hJ3 _ _ o13 (by simp only [upd,Nc,↓reduceIte]) (by simp only [upd,Nc,↓reduceIte]) (AS.set_objs_same _ _ _) (by simp only [upd,k12,Nc,↓reduceIte]) (by simp only [upd,k9,Nc,↓reduceIte]) (by simp only [upd,k8,Nc,↓reduceIte]) (by simp only [upd,k7,Nc,↓reduceIte]) (by simp only [upd,k0,Nc,↓reduceIte]) (by simp only [upd,k1,Nc,↓reduceIte]) (hl10 _)
    ·refine wS fun K hK=>?_
     simp only [↓DN,Qa,Qb,Qc,Qd,Qe,Qf,Qg,Qh,reduceCtorEq,↓reduceIte,Na,Nb,Nc,Nk,Nf,Ng,Nh,Za,Zb,Zc,TT,k12,k9,eye_lt_nat,decide_eq_false hk']
     refine hK _ _ ?_;clear hK K
     refine wC fun X Y hX hY=>?_
     simp only [UP,DF,Nc,↓reduceIte,DB]
     refine hY ?_;clear hX hY X Y
     refine awp_exit ?_
     simp only [thenQ,blockQ,if_true]
     refine hK _ _ ?_;clear hK hK2 K2 K
     have hfn:=hfi s9 hl9 (-1)
     have hnone : findE (-1) Wn = none:=by
      unfold findE
      rw [List.find?_eq_none]
      intro y hy
      rcases hW with rfl | hok
      ·cases hy
      ·have:=(hok.2.2.2 y hy).2.2.1
       simp
       omega
     rw [hnone] at hfn
     unfold EntV.cells EntV.nought at hfn
     simp only [Option.getD_none,Option.isSome_none] at hfn
     refine wS fun K hK=>?_
     simp only [↓DN,Qa,Qb,Qc,Qd,Qe,Qf,Qg,Qh,reduceCtorEq,↓reduceIte,Na,Nb,Nc,Nk,Nf,Ng,Nh,Za,Zb,Zc,TT,k0,k7,k8,hge,eye_lt_nat,hj',hat]
     refine acallk (ACalls.weaks (.cons (AV.weak.refl _) (.cons AV.weak_any (.cons (AV.weak.refl _) .nil))) hfn) ?_
     rintro r s10 ⟨rfl,rfl⟩
     simp only [↓AXq_nil,↓AXq_cons,pval,↓AXw_nil,↓AXw_cons,↓AGivS_call,↓AGivS_load,glook_nil,glook_cons,gokB,pval,DX,Nat.reduceBEq,List.toList_toArray,List.map_cons,List.map_nil,aeval,DX,Nat.reduceBEq,↓DN,Qa,Qb,Qc,Qd,Qe,Qf,Qg,Qh,reduceCtorEq,↓reduceIte,Na,Nb,Nc,Nk,Nf,Ng,Nh,Za,Zb,Zc,TT]
     intro o15 q15
     refine hK _ _ ?_;clear hK K
     refine wS fun K hK=>?_
     simp only [↓DN,Qa,Qb,Qc,Qd,Qe,Qf,Qg,Qh,reduceCtorEq,↓reduceIte,Na,Nb,Nc,Nk,Nf,Ng,Nh,Za,Zb,Zc,TT]
     refine hK _ _ ?_;clear hK K
     refine wC fun X Y hX hY=>?_
     simp only [UP,DF,Nc,↓reduceIte,DB]
     refine hY ?_;clear hX hY X Y
     refine awp_skip ?_
     simp only [blockQ,thenQ]
     exact hend _ _ (by simp only [upd,k8,Nc,↓reduceIte]) (by simp only [upd,k7,Nc,↓reduceIte]) (by simp only [upd,k0,Nc,↓reduceIte]) (by simp only [upd,k1,Nc,↓reduceIte]) (AS.le_set hl9 (AS.le_none hl9 q15) _)
   clear hK
   rcases hW with rfl | hok
   ·obtain rfl : bW = false:=by rw [hbW]; rfl
    have hz : aeqS Try.prog 54 .neq [.v (.int .i64 a1),.v (.int .i64 a2),.v (.int .i64 a3),.v (.int .i64 a4),.v (.int .i64 a5)] [.v (.int .i64 0),.v (.int .i64 0),.v (.int .i64 0),.v (.int .i64 0),.v (.int .i64 0)] = some (.v (.bool false)):=by
     have e : (⟨a1,a2,a3,a4,a5⟩ : EntV) = EntV.nought:=hlee
     have:=entNe EntV.nought EntV.nought
     rw [← e] at this
     have e2 : EntV.nought.cells = [.v (.int .i64 0),.v (.int .i64 0),.v (.int .i64 0),.v (.int .i64 0),.v (.int .i64 0)]:=rfl
     rw [← e2,← e]
     simpa [EntV.cells] using this
    refine awp_mrk_seq T.mixed [(o10,[.v (.int .i64 a1),.v (.int .i64 a2),.v (.int .i64 a3),.v (.int .i64 a4),.v (.int .i64 a5)])] [] [8,22] [] (by kernel_rfl) (by simp only [Pres_cons,Pres_nil,and_true]; simp [AS.set,upd,ho10]) ?_
    intro K hK
    simp only [↓AXr_nil,↓AXr_cons,gval,lval,fzGet_cons,fzGet_nil,Pres_cons,Pres_nil,List.any_cons,List.any_nil,List.contains_cons,List.contains_nil,Nat.reduceBEq,Bool.or_false,Bool.or_true,Bool.or_self,Bool.false_or,↓DN,Qa,Qb,Qc,Qd,Qe,Qf,Qg,Qh,reduceCtorEq,↓reduceIte,Na,Nb,Nc,Nk,Nf,Ng,Nh,Za,Zb,Zc,TT,ho10,hz,show decide ((0 : Int) < ((0 : Nat) : Int)) = false from rfl]
    refine hK _ _ ?_;clear hK K
    refine wC fun X Y hX hY=>?_
    simp only [UP,DF,Nc,↓reduceIte,DB]
    refine hY ?_;clear hX hY X Y
    refine awp_skip ?_
    exact hJ2 _ (by simp only [upd,Nc,↓reduceIte]; rfl) (by simp only [upd,g8,Nc,↓reduceIte]) (by simp only [upd,g7,Nc,↓reduceIte]) (by simp only [upd,g0,Nc,↓reduceIte]) (by simp only [upd,g1,Nc,↓reduceIte])
   ·have hWp : 0 < Wn.length:=List.length_pos_iff.2 hok.1
    obtain rfl : bW = true:=by rw [hbW,decide_eq_true hok.1]
    have e1 : decide ((0 : Int) < (Wn.length : Int)) = true:=by rw [decide_eq_true_iff]; omega
    have e2 : isub .i64 (Wn.length : Int) 1 = ((Wn.length - 1 : Nat) : Int):=by rw [dec_i64 (by omega) (by omega)]; omega
    have hgw : (0 : Int)≤((Wn.length - 1 : Nat) : Int):=by omega
    have hlw : Wn.length - 1 < Wn.length:=by omega
    have hrw:=hrow (Wn.length - 1) hlw
    have hll : Wn[Wn.length - 1] = ⟨a1,a2,a3,a4,a5⟩:=by
     rw [hlee]
     unfold lastE
     rw [List.getLastD_eq_getLast?,List.getLast?_eq_getElem?,List.getElem?_eq_getElem (by omega)]
     rfl
    rw [hll] at hrw
    unfold EntV.cells at hrw
    simp only at hrw
    refine awp_mrk_seq T.mixed [(o10,[.v (.int .i64 a1),.v (.int .i64 a2),.v (.int .i64 a3),.v (.int .i64 a4),.v (.int .i64 a5)])] [] [8,22] [] (by kernel_rfl) (by simp only [Pres_cons,Pres_nil,and_true]; simp [AS.set,upd,ho10]) ?_
    intro K hK
    simp only [↓AXr_nil,↓AXr_cons,gval,lval,fzGet_cons,fzGet_nil,Pres_cons,Pres_nil,List.any_cons,List.any_nil,List.contains_cons,List.contains_nil,Nat.reduceBEq,Bool.or_false,Bool.or_true,Bool.or_self,Bool.false_or,↓DN,Qa,Qb,Qc,Qd,Qe,Qf,Qg,Qh,reduceCtorEq,↓reduceIte,Na,Nb,Nc,Nk,Nf,Ng,Nh,Za,Zb,Zc,TT,ho10,hne0,e1,e2,hgw,hlw,eye_lt_nat,hrw]
    refine hK _ _ ?_;clear hK K
    refine wC fun X Y hX hY=>?_
    simp only [UP,DF,Nc,↓reduceIte,DB]
    refine hY ?_;clear hX hY X Y
    refine awp_skip ?_
    exact hJ2 _ (by simp only [upd,Nc,↓reduceIte]) (by simp only [upd,g8,Nc,↓reduceIte]) (by simp only [upd,g7,Nc,↓reduceIte]) (by simp only [upd,g0,Nc,↓reduceIte]) (by simp only [upd,g1,Nc,↓reduceIte])
  ·refine wS fun K hK=>?_
   simp only [↓DN,Qa,Qb,Qc,Qd,Qe,Qf,Qg,Qh,reduceCtorEq,↓reduceIte,Na,Nb,Nc,Nk,Nf,Ng,Nh,Za,Zb,Zc,TT,g8,g7,eye_lt_nat,decide_eq_false hj']
   refine hK _ _ ?_;clear hK K
   refine wC fun X Y hX hY=>?_
   simp only [UP,DF,Nc,↓reduceIte,DB]
   refine hY ?_;clear hX hY X Y
   refine awp_exit ?_
   simp only [thenQ,blockQ,if_true]
   refine hK _ _ ?_;clear hK hK2 K2 K
   refine wS fun K hK=>?_
   simp only [↓DN,Qa,Qb,Qc,Qd,Qe,Qf,Qg,Qh,reduceCtorEq,↓reduceIte,Na,Nb,Nc,Nk,Nf,Ng,Nh,Za,Zb,Zc,TT]
   refine hK _ _ ?_;clear hK K
   refine awp_ret ?_
   try simp only [thenQ,blockQ]
   simp only [retQ,AEnds,aresL,ares,List.toList_toArray,↓upd_same]; try simp only [UP,DF,Nc,↓reduceIte,DT]
   exact ⟨_,_,AV.weak.refl _,AS.le.refl _,rfl,hle⟩
 clear hK
 have hMm : M.map strC = N.map strC ++ [.v (.string ⟨other.toArray⟩)]:=by rw [hM,List.map_append]; rfl
 rcases hx with ⟨rfl,h0,hL0⟩ | ⟨t,e,rfl,ht,ht0⟩
 ·unfold nilS
  refine wE fun K hK=>?_
  simp only [↓DN,Qa,Qb,Qc,Qd,Qe,Qf,Qg,Qh,reduceCtorEq,↓reduceIte,Na,Nb,Nc,Nk,Nf,Ng,Nh,Za,Zb,Zc,TT,List.replicate_succ,List.replicate_zero]
  intro t ht
  refine hK _ _ (hJ _ _ t 0 ?_ (by simp only [upd,initE,List.getD_cons_zero,List.getD_cons_succ,Nc,↓reduceIte]) (by simp only [upd,initE,List.getD_cons_zero,List.getD_cons_succ,Nc,↓reduceIte]) (AS.le_gain hle (own_none_le hle ht) 0))
  rw [hMm,hMl,h0,hL0]
  simp only [upd,Nc,↓reduceIte]
  rfl
 ·refine wE fun K hK=>?_
  simp only [↓DN,Qa,Qb,Qc,Qd,Qe,Qf,Qg,Qh,reduceCtorEq,↓reduceIte,Na,Nb,Nc,Nk,Nf,Ng,Nh,Za,Zb,Zc,TT,ht,List.replicate_succ,List.replicate_zero]
  refine ⟨by omega,by omega,hK _ _ (hJ _ _ t (e + 1) ?_ (by simp only [upd,initE,List.getD_cons_zero,List.getD_cons_succ,Nc,↓reduceIte]) (by simp only [upd,initE,List.getD_cons_zero,List.getD_cons_succ,Nc,↓reduceIte]) (AS.le_gain hle ht0 _))⟩
  rw [hMm,hMl]
  simp only [upd,Nc,↓reduceIte]
end Go.Proofs.Ytfbbckndpkmfcaa
namespace Go.Proofs.Ytfbbckndpkmfcaa
open Go Go.AM Go.Proofs
variable {Γ : Nat→List AV}
def one1 (q : Nat) (cs : List AV) : AS:=⟨fun o=>if o = q then some cs else none,fun _=>none,fun _=>none⟩
theorem one1_le {q : Nat} {cs : List AV} {s : AS} (h : s.objs q = some cs) : (one1 q cs).le s:=by
 refine ⟨fun o ds k=>?_,fun _ _ k=>(by cases k),fun _ _ k=>(by cases k)⟩
 by_cases e : o = q
 ·subst e
  simp only [one1,if_true] at k
  rw [← k]; exact h
 ·simp only [one1,if_neg e] at k
  cases k
theorem ledS_upd {s0 s s' : AS} {p q : Nat} {L : LedV} {gs : List GEnt} {gt ge b1 b2 : Nat} (h : LedS s0 s p L gs gt ge b1 b2) (u : Upd1 q s s') {cs : List AV} (hq : s'.objs q = some cs) (hne : p≠q) : LedS (one1 q cs) s' p L gs gt ge b1 b2 :=
 { h with obj:=u.objs _ _ hne h.obj,m1:=u.maps _ _ h.m1,m2:=u.maps _ _ h.m2,own:=fun x hx=>⟨u.own _ _ (h.own x hx).1,rfl⟩,gown:=fun k=>⟨u.own _ _ (h.gown k).1,rfl,(h.gown k).2.2⟩,p0:=if_neg hne,b10:=rfl,b20:=rfl,le:=one1_le hq }
theorem rep_ep {L : LedV} {l : List Rec} (h : Rep L l) (g : List UInt8) : ∀ e ∈ entsR g l,0≤e.epoch∧e.epoch≤1048576:=by
 intro e he
 rw [← h.ents] at he
 rcases entsOf_mem (g:=g) (l:=L.gs) with a | ⟨y,a,_,b⟩
 ·rw [a] at he; cases he
 ·rw [← b] at he
  exact ((h.rises.2.1 y a).2.2.2 e he).2.2
theorem rep_step {L : LedV} {l : List Rec} (h : Rep L l) (r : Rec) : Rep (addV L r) (addR l r):=by
 unfold addR
 rw [← h.check r]
 by_cases hv : checkV L r = 0
 ·rw [if_pos hv]; exact h.add hv
 ·rw [if_neg hv,add_err hv]; exact h
theorem addR_len (l : List Rec) (r : Rec) : (addR l r).length≤l.length + 1:=by
 unfold addR
 split
 ·simp
 ·omega
theorem ledgerAdds_calls (rs : List Rec) (other : List UInt8) (bucket : Int) (s : AS) : ACalls Try.prog Γ 3 [recsV rs,bytesV other .any,.v (.int .i64 bucket)] s (fun r s'=>r = .v (.bool true)):=by
 refine acalls_body Try.func3 rfl Try.ntmps3 Try.results3 (by simp) ?_
 have hsm:=fun s=>small28_calls (Γ:=Γ) rs 40 (by decide) s
 have hrow:=fun i (h : i < rs.length)=>row_at (c:=Rec.cells) (k:=9) (fun _=>rfl) h
 unfold recsV bytesV at *
 generalize rowC Rec.cells rs = X at *
 refine wS fun K hK=>?_
 simp only [↓DN,Qa,Qb,Qc,Qd,Qe,Qf,Qg,Qh,reduceCtorEq,↓reduceIte,Na,Nb,Nc,Nk,Nf,Ng,Nh,Za,Zb,Zc,TT]
 refine hK _ _ ?_;clear hK K
 refine wK fun K hK=>?_
 refine wS fun K hK=>?_
 simp only [↓DN,Qa,Qb,Qc,Qd,Qe,Qf,Qg,Qh,reduceCtorEq,↓reduceIte,Na,Nb,Nc,Nk,Nf,Ng,Nh,Za,Zb,Zc,TT]
 refine acallk (awake28_calls _) ?_
 rintro r s1 ⟨rfl,rfl⟩
 simp only [↓DM,pval,DX,Nz,↓DN,Qa,Qb,Qc,Qd,Qe,Qf,Qg,Qh,reduceCtorEq,↓reduceIte,Na,Nb,Nc,Nk,Nf,Ng,Nh,Za,Zb,Zc,TT]
 refine acallk (hsm _) ?_
 rintro r s2 ⟨⟨b,rfl,hb⟩,rfl⟩
 cases b with
 | false =>
  simp only [↓DM,pval,DX,Nz,↓DN,Qa,Qb,Qc,Qd,Qe,Qf,Qg,Qh,reduceCtorEq,↓reduceIte,Na,Nb,Nc,Nk,Nf,Ng,Nh,Za,Zb,Zc,TT]
  refine hK _ _ ?_;clear hK K
  refine wC fun X Y hX hY=>?_
  simp only [UP,DF,Nc,↓reduceIte,DB]
  refine hX ?_;clear hX hY X Y
  refine wS fun K hK=>?_
  simp only [↓DN,Qa,Qb,Qc,Qd,Qe,Qf,Qg,Qh,reduceCtorEq,↓reduceIte,Na,Nb,Nc,Nk,Nf,Ng,Nh,Za,Zb,Zc,TT]
  refine acallk (awake28_calls _) ?_
  rintro r s3 ⟨rfl,rfl⟩
  simp only [↓DM,pval,DX,Nz,↓DN,Qa,Qb,Qc,Qd,Qe,Qf,Qg,Qh,reduceCtorEq,↓reduceIte,Na,Nb,Nc,Nk,Nf,Ng,Nh,Za,Zb,Zc,TT]
  refine hK _ _ ?_;clear hK K
  refine awp_ret ?_
  try simp only [thenQ,blockQ]
  simp only [retQ,AEnds,aresL,ares,List.toList_toArray,↓upd_same]; try simp only [UP,DF,Nc,↓reduceIte,DT]
  exact ⟨_,_,AV.weak.refl _,AS.le.refl _,rfl⟩
 | true =>
  have hl40:=hb rfl
  clear hsm hb
  by_cases ho : (40 : Int) < (other.length : Int)
  ·simp only [↓DM,pval,DX,Nz,↓DN,Qa,Qb,Qc,Qd,Qe,Qf,Qg,Qh,reduceCtorEq,↓reduceIte,Na,Nb,Nc,Nk,Nf,Ng,Nh,Za,Zb,Zc,TT,decide_eq_true ho]
   refine hK _ _ ?_;clear hK K
   refine wC fun X Y hX hY=>?_
   simp only [UP,DF,Nc,↓reduceIte,DB]
   refine hX ?_;clear hX hY X Y
   refine wS fun K hK=>?_
   simp only [↓DN,Qa,Qb,Qc,Qd,Qe,Qf,Qg,Qh,reduceCtorEq,↓reduceIte,Na,Nb,Nc,Nk,Nf,Ng,Nh,Za,Zb,Zc,TT]
   refine acallk (awake28_calls _) ?_
   rintro r s3 ⟨rfl,rfl⟩
   simp only [↓DM,pval,DX,Nz,↓DN,Qa,Qb,Qc,Qd,Qe,Qf,Qg,Qh,reduceCtorEq,↓reduceIte,Na,Nb,Nc,Nk,Nf,Ng,Nh,Za,Zb,Zc,TT]
   refine hK _ _ ?_;clear hK K
   refine awp_ret ?_
   try simp only [thenQ,blockQ]
   simp only [retQ,AEnds,aresL,ares,List.toList_toArray,↓upd_same]; try simp only [UP,DF,Nc,↓reduceIte,DT]
   exact ⟨_,_,AV.weak.refl _,AS.le.refl _,rfl⟩
  ·simp only [↓DM,pval,DX,Nz,↓DN,Qa,Qb,Qc,Qd,Qe,Qf,Qg,Qh,reduceCtorEq,↓reduceIte,Na,Nb,Nc,Nk,Nf,Ng,Nh,Za,Zb,Zc,TT,decide_eq_false ho]
   refine hK _ _ ?_;clear hK K
   refine wC fun X Y hX hY=>?_
   simp only [UP,DF,Nc,↓reduceIte,DB]
   refine hY ?_;clear hX hY X Y
   refine awp_skip ?_
   refine hK _ _ ?_;clear hK K
   refine wS fun K hK=>?_
   simp only [↓DN,Qa,Qb,Qc,Qd,Qe,Qf,Qg,Qh,reduceCtorEq,↓reduceIte,Na,Nb,Nc,Nk,Nf,Ng,Nh,Za,Zb,Zc,TT]
   refine acallk (ledNew_calls _) ?_
   rintro r s3 ⟨p,b1,b2,rfl,hL⟩
   simp only [↓DM,pval,DX,Nz,↓DN,Qa,Qb,Qc,Qd,Qe,Qf,Qg,Qh,reduceCtorEq,↓reduceIte,Na,Nb,Nc,Nk,Nf,Ng,Nh,Za,Zb,Zc,TT]
   refine hK _ _ ?_;clear hK K
   refine wS fun K hK=>?_
   simp only [↓DN,Qa,Qb,Qc,Qd,Qe,Qf,Qg,Qh,reduceCtorEq,↓reduceIte,Na,Nb,Nc,Nk,Nf,Ng,Nh,Za,Zb,Zc,TT]
   intro q hq
   refine hK _ _ ?_;clear hK K
   have hpq : p≠q:=by
    rintro rfl
    rw [hL.obj] at hq
    cases hq
   have hqs:=AS.set_objs_same s3 q [.v (.slice none 0 0)]
   have hL1:=ledS_more hL (AS.le_set (AS.le.refl s3) hq [.v (.slice none 0 0)])
   generalize s3.set q [.v (.slice none 0 0)] = s4 at *
   refine awp_tells (AS.tells_obj hqs (.cons (AV.weak_nil (sz:=9)) .nil)) ?_
   have hq5:=AS.set_objs_same s4 q [recsV []]
   have hL2:=ledS_upd (s':=s4.set q [recsV []]) (q:=q) hL1 ((Upd1.refl q s4).set _) hq5 hpq
   have hs5 : (s4.set q [AV.sl 9 0 [] .any]) = s4.set q [recsV []]:=rfl
   rw [hs5]
   generalize s4.set q [recsV []] = s5 at *
   clear hs5 hL1 hqs hL hq
   refine wK fun K hK=>?_
   refine wS fun K hK=>?_
   simp only [↓DN,Qa,Qb,Qc,Qd,Qe,Qf,Qg,Qh,reduceCtorEq,↓reduceIte,Na,Nb,Nc,Nk,Nf,Ng,Nh,Za,Zb,Zc,TT]
   refine hK _ _ ?_;clear hK K
   refine awp_block ?_
   refine awp_loop (fun E s'=>∃ (i : Nat) (l : List Rec) (L : LedV) (gs : List GEnt) (gt ge : Nat),i≤rs.length∧l.length≤i∧Rep L l∧LedS (one1 q [recsV l]) s' p L gs gt ge b1 b2 ∧
     E 9 = .v (.int .i64 i)∧E 7 = .ptr p 0∧E 8 = .ptr q 0∧E 0 = .sl 9 rs.length X .any∧E 1 = .sl 1 other.length (other.map byteV) .any∧E 2 = .v (.int .i64 bucket))
    (fun E _=>match E 9 with | .v (.int _ i)=>rs.length - i.toNat | _=>0) ?_ ?_
   ·exact ⟨0,[],LedV.new,[],0,0,Nat.zero_le _,Nat.le_refl _,rep_new,hL2,by simp only [upd,Nc,↓reduceIte]; rfl,by simp only [upd,Nc,↓reduceIte],by simp only [upd,Nc,↓reduceIte],by simp only [upd,initE,List.getD_cons_zero,List.getD_cons_succ,Nc,↓reduceIte],by simp only [upd,initE,List.getD_cons_zero,List.getD_cons_succ,Nc,↓reduceIte],by simp only [upd,initE,List.getD_cons_zero,List.getD_cons_succ,Nc,↓reduceIte]⟩
   clear hL2 hq5
   rintro E1 s6 ⟨i,l,L,gs,gt,ge,hi,hli,hr,hL,g9,g7,g8,g0,g1,g2⟩ -
   refine wK fun K2 hK2=>?_
   by_cases hi' : i < rs.length
   ·refine wS fun K hK=>?_
    simp only [↓DN,Qa,Qb,Qc,Qd,Qe,Qf,Qg,Qh,reduceCtorEq,↓reduceIte,Na,Nb,Nc,Nk,Nf,Ng,Nh,Za,Zb,Zc,TT,g9,g0,eye_lt_nat,decide_eq_true hi']
    refine hK _ _ ?_;clear hK K
    refine wC fun X Y hX hY=>?_
    simp only [UP,DF,Nc,↓reduceIte,DB]
    refine hX ?_;clear hX hY X Y
    refine awp_skip ?_
    refine hK2 _ _ ?_;clear hK2 K2
    refine wK fun K3 hK3=>?_
    refine awp_block ?_
    have hge : (0 : Int)≤((i : Nat) : Int):=by omega
    have hat:=hrow i hi'
    generalize rs[i] = r at *
    have hc0:=hr.rises.2.2.2
    have hcl:=hr.count
    have hin:=hr.rises.inv (by omega)
    have hgl : gs.length≤2 ^ 40:=by
     have h1:=totE_geN hr.rises
     have h2:=hr.rises.2.2.1
     have h3 : L.gs.length = gs.length:=by rw [hL.val,List.length_map]
     omega
    have hq6 : s6.objs q = some [recsV l]:=hL.le.objs _ _ (by simp [one1])
    have hck:=ledCheck_calls (Γ:=Γ) hL hin r
    have hcr:=refCheck_calls (Γ:=Γ) hq6 (by omega) r (rep_ep hr r.group)
    have hadd:=fun (s' : AS) (cs : List AV) (h : LedS (one1 q cs) s' p L gs gt ge b1 b2)=>ledAdd_calls (Γ:=Γ) h hin ⟨by omega,by omega⟩ hgl r
    have hadr:=fun (s' : AS) (h : s'.objs q = some [recsV l])=>refAdd_calls (Γ:=Γ) h (by omega) r (rep_ep hr r.group)
    have hst:=rep_step hr r
    have hsl:=addR_len l r
    have hend : ∀ (E : Env) (s7 : AS) (gs' : List GEnt) (gt' ge' : Nat),LedS (one1 q [recsV (addR l r)]) s7 p (addV L r) gs' gt' ge' b1 b2→E 9 = .v (.int .i64 i)→E 7 = .ptr p 0→E 8 = .ptr q 0→E 0 = .sl 9 rs.length X .any→E 1 = .sl 1 other.length (other.map byteV) .any→E 2 = .v (.int .i64 bucket)→K3 E s7:=by
     intro E s7 gs' gt' ge' hL' f9 f7 f8 f0 f1 f2
     refine hK3 _ _ ?_;clear hK3 K3
     refine wE fun K hK=>?_
     simp only [↓DN,Qa,Qb,Qc,Qd,Qe,Qf,Qg,Qh,reduceCtorEq,↓reduceIte,Na,Nb,Nc,Nk,Nf,Ng,Nh,Za,Zb,Zc,TT,f9,eye_succM i (by omega)]
     refine hK _ _ ?_;clear hK K
     refine ⟨⟨i + 1,_,_,gs',gt',ge',hi',by omega,hst,hL',by simp only [upd,Nc,↓reduceIte],by simp only [upd,f7,Nc,↓reduceIte],by simp only [upd,f8,Nc,↓reduceIte],by simp only [upd,f0,Nc,↓reduceIte],by simp only [upd,f1,Nc,↓reduceIte],by simp only [upd,f2,Nc,↓reduceIte]⟩,?_⟩
     simp only [g9,upd,↓reduceIte]
     omega
    clear hK3
    rw [← hr.check r] at hcr hadr
    have hafter : ∀ (s7 : AS) (gs' : List GEnt) (gt' ge' : Nat),LedS (one1 q [recsV (addR l r)]) s7 p (addV L r) gs' gt' ge' b1 b2→ACalls Try.prog Γ 12 [.ptr p 0,.ptr q 0,.v (.string ⟨other.toArray⟩)] s7 (fun r s'=>r = .v (.bool true)∧s' = s7) ∧
      ACalls Try.prog Γ 13 [.ptr p 0,.v (.int .i64 bucket)] s7 (fun v s'=>v = .v (.bool (decide (bucket ∈ (addV L r).shr)))∧s' = s7) ∧
      ACalls Try.prog Γ 14 [.ptr q 0,.v (.int .i64 bucket)] s7 (fun v s'=>v = .v (.bool (decide (bucket ∈ (addV L r).shr)))∧s' = s7):=by
     intro s7 gs' gt' ge' h7
     have hq7 : s7.objs q = some [recsV (addR l r)]:=h7.le.objs _ _ (by simp [one1])
     have e : decide (bucket ∈ (addV L r).shr) = shrR bucket (addR l r):=by rw [Bool.eq_iff_iff,decide_eq_true_iff]; exact hst.shr bucket
     refine ⟨tells_calls h7 hst hq7 (by omega) other,ledShred_calls h7 bucket,?_⟩
     rw [e]
     exact refShr_calls hq7 (by omega) bucket
    generalize addR l r = l' at *
    generalize addV L r = LA at *
    generalize checkV L r = V at *
    generalize decide (bucket ∈ LA.shr) = bs at *
    obtain ⟨rk,rg,re,rt,rb,ry,rtr,rsc,rw'⟩:=r
    unfold Rec.cells at *
    simp only at *
    unfold bytesV at *
    have f1 : (V != V) = false:=int_bne_false rfl
    have f2 : (!(bs == bs)) = false:=by simp
    have f3 : (bs != bs) = false:=by simp
    refine awp_drs2_seq T.mixed [19,25] [(5,.v (.int .i64 V)),(11,.v (.int .i64 V)),(33,.v (.bool true)),(39,.v (.bool bs)),(42,.v (.bool bs))] 19 25 [0,1,2,3,4,5,6,7,8,9,10,11,12,13,14,15,16,17,18,19,20,21,22,23,24,25,26,27,28,29,30,31,32,33,34,35,36,37,38,39,40,41,42,43,44] [0,1,2,3,4,5,6,7,8,9,10,11,12,13,14,15,16,17,18,20,21,22,23,24,25,19,26,27,28,29,30,31,32,33,34,35,36,37,38,39,40,41,42,43,44] (by kernel_rfl) ?_
    intro K hK
    have hfin : ∀ (E : Env) (s7 : AS) (gs' : List GEnt) (gt' ge' : Nat),LedS (one1 q [recsV l']) s7 p LA gs' gt' ge' b1 b2→E 76 = .v (.bool false)→E 9 = .v (.int .i64 i)→E 7 = .ptr p 0→E 8 = .ptr q 0→E 0 = .sl 9 rs.length X .any→E 1 = .sl 1 other.length (other.map byteV) .any→E 2 = .v (.int .i64 bucket)→K E s7:=by
     intro E s7 gs' gt' ge' hL' f76 f9 f7 f8 f0 f1 f2
     refine hK _ _ ?_;clear hK K
     refine wC fun X Y hX hY=>?_
     simp only [↓DN,Qa,Qb,Qc,Qd,Qe,Qf,Qg,Qh,reduceCtorEq,↓reduceIte,Na,Nb,Nc,Nk,Nf,Ng,Nh,Za,Zb,Zc,TT,DB,f76]
     refine hY ?_;clear hX hY X Y
     refine awp_skip ?_
     simp only [blockQ,thenQ]
     exact hend E s7 gs' gt' ge' hL' f9 f7 f8 f0 f1 f2
    clear hK
    refine ⟨?_,?_⟩
    ·simp only [↓AXw_nil,↓AXw_cons,↓AGivS_call,↓AGivS_load,glook_nil,glook_cons,gokB,pval,DX,Nat.reduceBEq,List.toList_toArray,List.map_cons,List.map_nil,aeval,↓DN,Qa,Qb,Qc,Qd,Qe,Qf,Qg,Qh,reduceCtorEq,↓reduceIte,Na,Nb,Nc,Nk,Nf,Ng,Nh,Za,Zb,Zc,TT,g9,g7,g8,g0,g1,g2,hge,eye_lt_nat,hi',hat,f1,f2,f3]
     refine agivs hck (agivs hcr ?_)
     refine acallk (hadd _ _ hL) ?_
     rintro v s7 ⟨rfl,gs',gt',ge',hL7⟩
     have hq7 : s7.objs q = some [recsV l]:=hL7.le.objs _ _ (by simp [one1])
     simp only [↓AXq_nil,↓AXq_cons,pval,↓AXw_nil,↓AXw_cons,↓AGivS_call,↓AGivS_load,glook_nil,glook_cons,gokB,pval,DX,Nat.reduceBEq,List.toList_toArray,List.map_cons,List.map_nil,aeval,DX,Nat.reduceBEq,↓DN,Qa,Qb,Qc,Qd,Qe,Qf,Qg,Qh,reduceCtorEq,↓reduceIte,Na,Nb,Nc,Nk,Nf,Ng,Nh,Za,Zb,Zc,TT,g9,g7,g8,g0,g1,g2,hge,eye_lt_nat,hi',hat,f1,f2,f3]
     refine acallk (hadr _ hq7) ?_
     rintro v s8 ⟨rfl,hq8,hu8⟩
     have hL8:=ledS_upd hL7 hu8 hq8 hpq
     obtain ⟨t1,t2,t3⟩:=hafter s8 gs' gt' ge' hL8
     simp only [↓AXq_nil,↓AXq_cons,pval,↓AXw_nil,↓AXw_cons,↓AGivS_call,↓AGivS_load,glook_nil,glook_cons,gokB,pval,DX,Nat.reduceBEq,List.toList_toArray,List.map_cons,List.map_nil,aeval,DX,Nat.reduceBEq,↓DN,Qa,Qb,Qc,Qd,Qe,Qf,Qg,Qh,reduceCtorEq,↓reduceIte,Na,Nb,Nc,Nk,Nf,Ng,Nh,Za,Zb,Zc,TT,g9,g7,g8,g0,g1,g2,hge,eye_lt_nat,hi',hat,f1,f2,f3]
     refine agivs t1 (agivs t2 (agivs t3 ?_))
     exact hfin _ _ gs' gt' ge' hL8 (by simp only [upd,Nc,↓reduceIte]) (by simp only [upd,g9,Nc,↓reduceIte]) (by simp only [upd,g7,Nc,↓reduceIte]) (by simp only [upd,g8,Nc,↓reduceIte]) (by simp only [upd,g0,Nc,↓reduceIte]) (by simp only [upd,g1,Nc,↓reduceIte]) (by simp only [upd,g2,Nc,↓reduceIte])
    ·simp only [↓AXw_nil,↓AXw_cons,↓AGivS_call,↓AGivS_load,glook_nil,glook_cons,gokB,pval,DX,Nat.reduceBEq,List.toList_toArray,List.map_cons,List.map_nil,aeval,↓DN,Qa,Qb,Qc,Qd,Qe,Qf,Qg,Qh,reduceCtorEq,↓reduceIte,Na,Nb,Nc,Nk,Nf,Ng,Nh,Za,Zb,Zc,TT,g9,g7,g8,g0,g1,g2,hge,eye_lt_nat,hi',hat,f1,f2,f3]
     refine agivs hck (agivs hcr ?_)
     refine acallk (hadr _ hq6) ?_
     rintro v s7 ⟨rfl,hq7,hu7⟩
     have hL7:=ledS_upd hL hu7 hq7 hpq
     simp only [↓AXq_nil,↓AXq_cons,pval,↓AXw_nil,↓AXw_cons,↓AGivS_call,↓AGivS_load,glook_nil,glook_cons,gokB,pval,DX,Nat.reduceBEq,List.toList_toArray,List.map_cons,List.map_nil,aeval,DX,Nat.reduceBEq,↓DN,Qa,Qb,Qc,Qd,Qe,Qf,Qg,Qh,reduceCtorEq,↓reduceIte,Na,Nb,Nc,Nk,Nf,Ng,Nh,Za,Zb,Zc,TT,g9,g7,g8,g0,g1,g2,hge,eye_lt_nat,hi',hat,f1,f2,f3]
     refine acallk (hadd _ _ hL7) ?_
     rintro v s8 ⟨rfl,gs',gt',ge',hL8⟩
     obtain ⟨t1,t2,t3⟩:=hafter s8 gs' gt' ge' hL8
     simp only [↓AXq_nil,↓AXq_cons,pval,↓AXw_nil,↓AXw_cons,↓AGivS_call,↓AGivS_load,glook_nil,glook_cons,gokB,pval,DX,Nat.reduceBEq,List.toList_toArray,List.map_cons,List.map_nil,aeval,DX,Nat.reduceBEq,↓DN,Qa,Qb,Qc,Qd,Qe,Qf,Qg,Qh,reduceCtorEq,↓reduceIte,Na,Nb,Nc,Nk,Nf,Ng,Nh,Za,Zb,Zc,TT,g9,g7,g8,g0,g1,g2,hge,eye_lt_nat,hi',hat,f1,f2,f3]
     refine agivs t1 (agivs t2 (agivs t3 ?_))
     exact hfin _ _ gs' gt' ge' hL8 (by simp only [upd,Nc,↓reduceIte]) (by simp only [upd,g9,Nc,↓reduceIte]) (by simp only [upd,g7,Nc,↓reduceIte]) (by simp only [upd,g8,Nc,↓reduceIte]) (by simp only [upd,g0,Nc,↓reduceIte]) (by simp only [upd,g1,Nc,↓reduceIte]) (by simp only [upd,g2,Nc,↓reduceIte])
   ·refine wS fun K hK=>?_
    simp only [↓DN,Qa,Qb,Qc,Qd,Qe,Qf,Qg,Qh,reduceCtorEq,↓reduceIte,Na,Nb,Nc,Nk,Nf,Ng,Nh,Za,Zb,Zc,TT,g9,g0,eye_lt_nat,decide_eq_false hi']
    refine hK _ _ ?_;clear hK K
    refine wC fun X Y hX hY=>?_
    simp only [UP,DF,Nc,↓reduceIte,DB]
    refine hY ?_;clear hX hY X Y
    refine awp_exit ?_
    simp only [thenQ,blockQ,if_true]
    refine hK _ _ ?_;clear hK hK2 K2 K
    refine wS fun K hK=>?_
    simp only [↓DN,Qa,Qb,Qc,Qd,Qe,Qf,Qg,Qh,reduceCtorEq,↓reduceIte,Na,Nb,Nc,Nk,Nf,Ng,Nh,Za,Zb,Zc,TT]
    refine hK _ _ ?_;clear hK K
    refine awp_ret ?_
    try simp only [thenQ,blockQ]
    simp only [retQ,AEnds,aresL,ares,List.toList_toArray,↓upd_same]; try simp only [UP,DF,Nc,↓reduceIte,DT]
    exact ⟨_,_,AV.weak.refl _,AS.le.refl _,rfl⟩
end Go.Proofs.Ytfbbckndpkmfcaa
namespace Go.AM
open Go
theorem IsTy.tree {avs : List AV} (h : IsTy (.slice 5 (.struct (.cons tyI (.cons tyB (.cons (.int .u64) (.cons tyB (.cons (.slice 1 tyI) .nil))))))) avs) : ∃ t : List NodeV,avs = [treeV t]∧∀ n ∈ t,n.key < 2 ^ 64:=by
  obtain ⟨els,rfl,_,hall⟩:=IsTy.rows h
  have key : ∀ els : List (List AV),(∀ el ∈ els,el.length = 5∧IsTy (.struct (.cons tyI (.cons tyB (.cons (.int .u64) (.cons tyB (.cons (.slice 1 tyI) .nil)))))) el)→∃ t : List NodeV,els = t.map NodeV.cells∧∀ n ∈ t,n.key < 2 ^ 64:=by
    intro els
    induction els with
    | nil=>intro _; exact ⟨[],rfl,fun n hn=>by cases hn⟩
    | cons e els ih =>
      intro h
      obtain ⟨t,rfl,h2⟩:=ih (fun el hel=>h el (by simp [hel]))
      obtain ⟨_,h1⟩:=h e (by simp)
      obtain ⟨N,rfl,hN⟩:=IsTy.node h1
      refine ⟨N :: t,rfl,fun n hn=>?_⟩
      rcases List.mem_cons.1 hn with rfl | hn
      · exact hN
      · exact h2 n hn
  obtain ⟨t,rfl,h2⟩:=key els hall
  refine ⟨t,?_,h2⟩
  unfold treeV rowC
  rw [List.length_map]
end Go.AM
namespace Go.AM
open Go
theorem IsTy.records {avs : List AV} (h : IsTy (.slice 9 (.struct (.cons tyI (.cons tyB (.cons tyI (.cons tyI (.cons tyI (.cons tyB (.cons tyB (.cons tyB (.cons tyB .nil))))))))))) avs) : ∃ l : List Rec,avs = [.sl 9 l.length (rowC Rec.cells l) .any]:=by
  obtain ⟨els,rfl,_,hall⟩:=IsTy.rows h
  have key : ∀ els : List (List AV),(∀ el ∈ els,el.length = 9∧IsTy (.struct (.cons tyI (.cons tyB (.cons tyI (.cons tyI (.cons tyI (.cons tyB (.cons tyB (.cons tyB (.cons tyB .nil)))))))))) el)→∃ l : List Rec,els = l.map Rec.cells:=by
    intro els
    induction els with
    | nil=>intro _; exact ⟨[],rfl⟩
    | cons e els ih =>
      intro h
      obtain ⟨l,rfl⟩:=ih (fun el hel=>h el (by simp [hel]))
      obtain ⟨_,h1⟩:=h e (by simp)
      obtain ⟨a,rfl⟩:=IsTy.record h1
      exact ⟨a :: l,rfl⟩
  obtain ⟨l,rfl⟩:=key els hall
  refine ⟨l,?_⟩
  unfold rowC
  rw [List.length_map]
end Go.AM
