/- Contracts of the program's functions, each walked once; the conditions stand in each theorem. -/
import Derived.Test.YtcjifoccjlpapaaAMp6
import Derived.Test.YtcjifoccjlpapaaW1
set_option linter.unusedSimpArgs false
set_option linter.unusedVariables false
open Nat renaming reduceLT → Na, reduceLeDiff → Nb, reduceEqDiff → Nc, reduceAdd → Nk, reduceMul → Nf, reducePow → Ng, reduceSub → Nh, reduceBEq → Nz
open Int renaming reduceLT → Za, reduceLE → Zb, reduceToNat → Zc
open Go.AM renaming ashift → Qa, aconv → Qb, aindexAddr → Qc, aindex → Qd, aslice → Qe, abuiltin → Qf, awp_reg_seq → wS, awp_reg_end → wE, awp_seq_k → wK, awp_cond_k → wC
open Go.AM.AV renaming cells → Qg, one → Qh
set_option maxRecDepth 100000
set_option maxHeartbeats 8000000
set_option autoImplicit false
namespace Go.Proofs.Ytcjifoccjlpapaa
open Go Go.AM Go.Proofs
variable {Γ : Nat→List AV}
theorem ledCheck_calls {s0 s : AS} {p : Nat} {L : LedV} {gs : List GEnt} {gt ge b1 b2 : Nat} (h : LedS s0 s p L gs gt ge b1 b2) (hi : L.inv) (r : Rec) :
  ACalls Try.prog Γ 14 [.ptr p 0,.agg r.cells] s (fun v s'=>v = .v (.int .i64 (checkV L r))∧s' = s):=by
 refine ACalls.forget (R:=fun v s'=>v = .v (.int .i64 (checkV L r))∧s' = s) (Q:=fun v s'=>v = .v (.int .i64 (checkV L r))∧s.le s') ?_ fun v s' ⟨h1,h2⟩=>⟨s,h2,h1,rfl⟩
 refine acalls_body Try.func14 rfl Try.ntmps14 Try.results14 (by simp) ?_
 have ho:=h.obj
 have hm1:=h.m1
 have hm2:=h.m2
 have hla:=ledLast_calls (Γ:=Γ) h (hi.gs h.val) r.group
 have hri:=fun s=>recRight_calls (Γ:=Γ) r s
 have hep:=hi.last r.group
 have hf:=find_shr r.bucket L.shr
 have hz : azero Try.prog 4 = some (.bool false):=by kernel_rfl
 have hk : keyPlain (.int .i64) (.int .i64 r.bucket) = true:=rfl
 obtain ⟨V,hV⟩ : ∃ V,V = checkV L r:=⟨_,rfl⟩
 rw [← hV]
 unfold checkV at hV
 generalize lastE (entsOf r.group L.gs) = le at *
 obtain ⟨b6,hb6⟩ : ∃ b,b = decide (entsOf r.group L.gs≠[]):=⟨_,rfl⟩
 rw [← hb6] at hla
 have hem : (entsOf r.group L.gs = []) = (b6 = false):=by rw [hb6]; simp
 have hne : (entsOf r.group L.gs≠[]) = (b6 = true):=by rw [hb6]; simp
 simp only [hem,hne] at hV
 have hob : ∀ {o : Nat} (cs : List AV),s.objs o = none→p≠o:=fun _ hn e=>by rw [← e,ho] at hn; cases hn
 unfold ledC at ho
 have e41 : iadd .i64 le.epoch 1 = le.epoch + 1:=iadd_i64 (by omega)
 obtain ⟨rk,rg,re,rt,rb,ry,rtr,rsc,rw'⟩:=r
 obtain ⟨l1,l2,l3,l4,l5⟩:=le
 unfold Rec.cells EntV.cells at *
 simp only at *
 unfold bytesV at *
 obtain ⟨VR,hVR⟩ : ∃ VR,VR = AV.rop [.v (.int .i64 rk),.sl 1 rg.length (rg.map byteV) .any,.v (.int .i64 re),.v (.int .i64 rt),.v (.int .i64 rb),.sl 1 ry.length (ry.map byteV) .any,.sl 1 rtr.length (rtr.map byteV) .any,.sl 1 rsc.length (rsc.map byteV) .any,.sl 1 rw'.length (rw'.map byteV) .any]:=⟨_,rfl⟩
 refine awp_reg_frz 3 (by decide) ?_
 intro K hK
 simp only [↓DM,pval,DX,Nz,↓DN,Qa,Qb,Qc,Qd,Qe,Qf,Qg,Qh,reduceCtorEq,↓reduceIte,Na,Nb,Nc,Nk,Nf,Ng,Nh,Za,Zb,Zc,TT]
 intro o3 q3
 refine hK _ _ o3 _ (by simp only [upd,Nc,↓reduceIte]) q3 ?_
 clear hK K q3
 refine wS fun K hK=>?_
 simp only [↓DN,Qa,Qb,Qc,Qd,Qe,Qf,Qg,Qh,reduceCtorEq,↓reduceIte,Na,Nb,Nc,Nk,Nf,Ng,Nh,Za,Zb,Zc,TT]
 refine acallk hla ?_
 rintro r s1 ⟨rfl,rfl⟩
 simp only [↓DM,pval,DX,Nz,↓DN,Qa,Qb,Qc,Qd,Qe,Qf,Qg,Qh,reduceCtorEq,↓reduceIte,Na,Nb,Nc,Nk,Nf,Ng,Nh,Za,Zb,Zc,TT]
 intro o5 q5
 refine hK _ _ ?_;clear hK K
 have hp5:=hob [] q5
 have ho':=(AS.set_objs_ne s1 hp5 [.v (.int .i64 l1),.v (.int .i64 l2),.v (.int .i64 l3),.v (.int .i64 l4),.v (.int .i64 l5)]).trans ho
 have hm2' : (s1.set o5 [.v (.int .i64 l1),.v (.int .i64 l2),.v (.int .i64 l3),.v (.int .i64 l4),.v (.int .i64 l5)]).maps b2 = some (L.shr.map shrKV):=hm2
 have hl5:=AS.set_objs_same s1 o5 [.v (.int .i64 l1),.v (.int .i64 l2),.v (.int .i64 l3),.v (.int .i64 l4),.v (.int .i64 l5)]
 have hle : s1.le (s1.set o5 [.v (.int .i64 l1),.v (.int .i64 l2),.v (.int .i64 l3),.v (.int .i64 l4),.v (.int .i64 l5)]):=AS.le_set (AS.le.refl _) q5 _
 generalize s1.set o5 [.v (.int .i64 l1),.v (.int .i64 l2),.v (.int .i64 l3),.v (.int .i64 l4),.v (.int .i64 l5)] = s2 at ho' hm2' hl5 hle ⊢
 refine wK fun K hK=>?_
 refine awp_block ?_
 refine wS fun K hK=>?_
 simp only [↓DN,Qa,Qb,Qc,Qd,Qe,Qf,Qg,Qh,reduceCtorEq,↓reduceIte,Na,Nb,Nc,Nk,Nf,Ng,Nh,Za,Zb,Zc,TT]
 refine acallk (hri _) ?_
 rintro r s3 ⟨rfl,rfl⟩
 by_cases hr : (⟨rk,rg,re,rt,rb,ry,rtr,rsc,rw'⟩ : Rec).right
 ·rw [if_neg (fun k=>k hr)] at hV
  rw [decide_eq_true hr]
  simp only [↓DM,pval,DX,Nz,↓DN,Qa,Qb,Qc,Qd,Qe,Qf,Qg,Qh,reduceCtorEq,↓reduceIte,Na,Nb,Nc,Nk,Nf,Ng,Nh,Za,Zb,Zc,TT]
  refine hK _ _ ?_;clear hK K
  refine wC fun X Y hX hY=>?_
  simp only [UP,DF,Nc,↓reduceIte,DB]
  refine hY ?_;clear hX hY X Y
  by_cases ht : rt < L.time
  ·rw [if_pos ht] at hV
   refine awp_drw_seq T.mixed [5] (by kernel_rfl) ?_
   intro K hK
   simp only [↓DM,pval,DX,Nz,↓DN,Qa,Qb,Qc,Qd,Qe,Qf,Qg,Qh,reduceCtorEq,↓reduceIte,Na,Nb,Nc,Nk,Nf,Ng,Nh,Za,Zb,Zc,TT,ho',decide_eq_true ht]
   refine hK _ _ ?_;clear hK K
   refine wC fun X Y hX hY=>?_
   simp only [UP,DF,Nc,↓reduceIte,DB]
   refine hX ?_;clear hX hY X Y
   refine wS fun K hK=>?_
   simp only [↓DN,Qa,Qb,Qc,Qd,Qe,Qf,Qg,Qh,reduceCtorEq,↓reduceIte,Na,Nb,Nc,Nk,Nf,Ng,Nh,Za,Zb,Zc,TT]
   refine hK _ _ ?_;clear hK K
   refine awp_ret ?_
   try simp only [thenQ,blockQ]
   simp only [retQ,AEnds,aresL,ares,List.toList_toArray,↓upd_same]; try simp only [UP,DF,Nc,↓reduceIte,DT]
   exact ⟨_,_,AV.weak.refl _,AS.le.refl _,by rw [hV],hle⟩
  ·rw [if_neg ht] at hV
   refine awp_drw_seq T.mixed [5] (by kernel_rfl) ?_
   intro K hK
   simp only [↓DM,pval,DX,Nz,↓DN,Qa,Qb,Qc,Qd,Qe,Qf,Qg,Qh,reduceCtorEq,↓reduceIte,Na,Nb,Nc,Nk,Nf,Ng,Nh,Za,Zb,Zc,TT,ho',decide_eq_false ht]
   refine hK _ _ ?_;clear hK K
   refine wC fun X Y hX hY=>?_
   simp only [UP,DF,Nc,↓reduceIte,DB]
   refine hY ?_;clear hX hY X Y
   by_cases h3 : rk = 3
   ·rw [if_pos h3] at hV
    refine wS fun K hK=>?_
    simp only [↓DN,Qa,Qb,Qc,Qd,Qe,Qf,Qg,Qh,reduceCtorEq,↓reduceIte,Na,Nb,Nc,Nk,Nf,Ng,Nh,Za,Zb,Zc,TT,int_eq_yes h3]
    refine hK _ _ ?_;clear hK K
    refine wC fun X Y hX hY=>?_
    simp only [UP,DF,Nc,↓reduceIte,DB]
    refine hX ?_;clear hX hY X Y
    refine wK fun K2 hK2=>?_
    by_cases hs : rb ∈ L.shr
    ·rw [if_pos hs] at hV hf
     refine awp_drw_seq T.mixed [3,6] (by kernel_rfl) ?_
     intro K hK
     simp only [↓DM,pval,DX,Nz,↓DN,Qa,Qb,Qc,Qd,Qe,Qf,Qg,Qh,reduceCtorEq,↓reduceIte,Na,Nb,Nc,Nk,Nf,Ng,Nh,Za,Zb,Zc,TT,ho',amOf,avOf,hm2',Try.underlying56,Try.underlying3,hz,hk,hf]
     refine hK _ _ ?_;clear hK K
     refine wC fun X Y hX hY=>?_
     simp only [UP,DF,Nc,↓reduceIte,DB]
     refine hX ?_;clear hX hY X Y
     refine wS fun K hK=>?_
     simp only [↓DN,Qa,Qb,Qc,Qd,Qe,Qf,Qg,Qh,reduceCtorEq,↓reduceIte,Na,Nb,Nc,Nk,Nf,Ng,Nh,Za,Zb,Zc,TT]
     refine hK _ _ ?_;clear hK K
     refine awp_ret ?_
     try simp only [thenQ,blockQ]
     simp only [retQ,AEnds,aresL,ares,List.toList_toArray,↓upd_same]; try simp only [UP,DF,Nc,↓reduceIte,DT]
     exact ⟨_,_,AV.weak.refl _,AS.le.refl _,by rw [hV],hle⟩
    ·rw [if_neg hs] at hV hf
     refine awp_drw_seq T.mixed [3,6] (by kernel_rfl) ?_
     intro K hK
     simp only [↓DM,pval,DX,Nz,↓DN,Qa,Qb,Qc,Qd,Qe,Qf,Qg,Qh,reduceCtorEq,↓reduceIte,Na,Nb,Nc,Nk,Nf,Ng,Nh,Za,Zb,Zc,TT,ho',amOf,avOf,hm2',Try.underlying56,Try.underlying3,hz,hk,hf]
     refine hK _ _ ?_;clear hK K
     refine wC fun X Y hX hY=>?_
     simp only [UP,DF,Nc,↓reduceIte,DB]
     refine hY ?_;clear hX hY X Y
     refine awp_skip ?_
     refine hK2 _ _ ?_;clear hK2 K2
     refine wS fun K hK=>?_
     simp only [↓DN,Qa,Qb,Qc,Qd,Qe,Qf,Qg,Qh,reduceCtorEq,↓reduceIte,Na,Nb,Nc,Nk,Nf,Ng,Nh,Za,Zb,Zc,TT]
     refine hK _ _ ?_;clear hK K
     refine awp_ret ?_
     try simp only [thenQ,blockQ]
     simp only [retQ,AEnds,aresL,ares,List.toList_toArray,↓upd_same]; try simp only [UP,DF,Nc,↓reduceIte,DT]
     exact ⟨_,_,AV.weak.refl _,AS.le.refl _,by rw [hV],hle⟩
   ·rw [if_neg h3] at hV
    refine wS fun K hK=>?_
    simp only [↓DN,Qa,Qb,Qc,Qd,Qe,Qf,Qg,Qh,reduceCtorEq,↓reduceIte,Na,Nb,Nc,Nk,Nf,Ng,Nh,Za,Zb,Zc,TT,int_eq_no h3]
    refine hK _ _ ?_;clear hK K
    refine wC fun X Y hX hY=>?_
    simp only [UP,DF,Nc,↓reduceIte,DB]
    refine hY ?_;clear hX hY X Y
    by_cases hs : rb ∈ L.shr
    ·rw [if_pos hs] at hV hf
     refine awp_drw_seq T.mixed [3,6] (by kernel_rfl) ?_
     intro K hK
     simp only [↓DM,pval,DX,Nz,↓DN,Qa,Qb,Qc,Qd,Qe,Qf,Qg,Qh,reduceCtorEq,↓reduceIte,Na,Nb,Nc,Nk,Nf,Ng,Nh,Za,Zb,Zc,TT,ho',amOf,avOf,hm2',Try.underlying56,Try.underlying3,hz,hk,hf]
     refine hK _ _ ?_;clear hK K
     refine wC fun X Y hX hY=>?_
     simp only [UP,DF,Nc,↓reduceIte,DB]
     refine hX ?_;clear hX hY X Y
     refine wS fun K hK=>?_
     simp only [↓DN,Qa,Qb,Qc,Qd,Qe,Qf,Qg,Qh,reduceCtorEq,↓reduceIte,Na,Nb,Nc,Nk,Nf,Ng,Nh,Za,Zb,Zc,TT]
     refine hK _ _ ?_;clear hK K
     refine awp_ret ?_
     try simp only [thenQ,blockQ]
     simp only [retQ,AEnds,aresL,ares,List.toList_toArray,↓upd_same]; try simp only [UP,DF,Nc,↓reduceIte,DT]
     exact ⟨_,_,AV.weak.refl _,AS.le.refl _,by rw [hV],hle⟩
    ·rw [if_neg hs] at hV hf
     refine awp_drw_seq T.mixed [3,6] (by kernel_rfl) ?_
     intro K hK
     simp only [↓DM,pval,DX,Nz,↓DN,Qa,Qb,Qc,Qd,Qe,Qf,Qg,Qh,reduceCtorEq,↓reduceIte,Na,Nb,Nc,Nk,Nf,Ng,Nh,Za,Zb,Zc,TT,ho',amOf,avOf,hm2',Try.underlying56,Try.underlying3,hz,hk,hf]
     refine hK _ _ ?_;clear hK K
     refine wC fun X Y hX hY=>?_
     simp only [UP,DF,Nc,↓reduceIte,DB]
     refine hY ?_;clear hX hY X Y
     cases b6 with
     | false =>
      by_cases h2 : rk = 2
      ·rw [if_pos ⟨h2,rfl⟩] at hV
       refine wS fun K hK=>?_
       simp only [↓DN,Qa,Qb,Qc,Qd,Qe,Qf,Qg,Qh,reduceCtorEq,↓reduceIte,Na,Nb,Nc,Nk,Nf,Ng,Nh,Za,Zb,Zc,TT,int_eq_yes h2]
       refine hK _ _ ?_;clear hK K
       refine wC fun X Y hX hY=>?_
       simp only [UP,DF,Nc,↓reduceIte,DB]
       refine hX ?_;clear hX hY X Y
       refine wS fun K hK=>?_
       simp only [↓DN,Qa,Qb,Qc,Qd,Qe,Qf,Qg,Qh,reduceCtorEq,↓reduceIte,Na,Nb,Nc,Nk,Nf,Ng,Nh,Za,Zb,Zc,TT]
       refine hK _ _ ?_;clear hK K
       refine awp_ret ?_
       try simp only [thenQ,blockQ]
       simp only [retQ,AEnds,aresL,ares,List.toList_toArray,↓upd_same]; try simp only [UP,DF,Nc,↓reduceIte,DT]
       exact ⟨_,_,AV.weak.refl _,AS.le.refl _,by rw [hV],hle⟩
      ·rw [if_neg (fun k=>h2 k.1),if_neg (by rintro (k | k); exact h2 k.1; exact absurd k.2.1 (by decide))] at hV
       refine wS fun K hK=>?_
       simp only [↓DN,Qa,Qb,Qc,Qd,Qe,Qf,Qg,Qh,reduceCtorEq,↓reduceIte,Na,Nb,Nc,Nk,Nf,Ng,Nh,Za,Zb,Zc,TT,int_eq_no h2]
       refine hK _ _ ?_;clear hK K
       refine wC fun X Y hX hY=>?_
       simp only [UP,DF,Nc,↓reduceIte,DB]
       refine hY ?_;clear hX hY X Y
       refine wK fun K2 hK2=>?_
       refine wS fun K hK=>?_
       simp only [↓DN,Qa,Qb,Qc,Qd,Qe,Qf,Qg,Qh,reduceCtorEq,↓reduceIte,Na,Nb,Nc,Nk,Nf,Ng,Nh,Za,Zb,Zc,TT,int_eq_no h2]
       refine hK _ _ ?_;clear hK K
       refine wC fun X Y hX hY=>?_
       simp only [UP,DF,Nc,↓reduceIte,DB]
       refine hY ?_;clear hX hY X Y
       by_cases h1 : rk = 1
       ·refine wE fun K hK=>?_
        simp only [↓DN,Qa,Qb,Qc,Qd,Qe,Qf,Qg,Qh,reduceCtorEq,↓reduceIte,Na,Nb,Nc,Nk,Nf,Ng,Nh,Za,Zb,Zc,TT,int_eq_yes h1]
        refine hK _ _ ?_;clear hK K
        refine hK2 _ _ ?_;clear hK2 K2
        refine wC fun X Y hX hY=>?_
        simp only [UP,DF,Nc,↓reduceIte,DB]
        refine hY ?_;clear hX hY X Y
        refine awp_skip ?_
        refine hK _ _ ?_;clear hK K
        refine wS fun K hK=>?_
        simp only [↓DN,Qa,Qb,Qc,Qd,Qe,Qf,Qg,Qh,reduceCtorEq,↓reduceIte,Na,Nb,Nc,Nk,Nf,Ng,Nh,Za,Zb,Zc,TT]
        refine hK _ _ ?_;clear hK K
        refine awp_ret ?_
        try simp only [thenQ,blockQ]
        simp only [retQ,AEnds,aresL,ares,List.toList_toArray,↓upd_same]; try simp only [UP,DF,Nc,↓reduceIte,DT]
        exact ⟨_,_,AV.weak.refl _,AS.le.refl _,by rw [hV],hle⟩
       ·refine wE fun K hK=>?_
        simp only [↓DN,Qa,Qb,Qc,Qd,Qe,Qf,Qg,Qh,reduceCtorEq,↓reduceIte,Na,Nb,Nc,Nk,Nf,Ng,Nh,Za,Zb,Zc,TT,int_eq_no h1]
        refine hK _ _ ?_;clear hK K
        refine hK2 _ _ ?_;clear hK2 K2
        refine wC fun X Y hX hY=>?_
        simp only [UP,DF,Nc,↓reduceIte,DB]
        refine hY ?_;clear hX hY X Y
        refine awp_skip ?_
        refine hK _ _ ?_;clear hK K
        refine wS fun K hK=>?_
        simp only [↓DN,Qa,Qb,Qc,Qd,Qe,Qf,Qg,Qh,reduceCtorEq,↓reduceIte,Na,Nb,Nc,Nk,Nf,Ng,Nh,Za,Zb,Zc,TT]
        refine hK _ _ ?_;clear hK K
        refine awp_ret ?_
        try simp only [thenQ,blockQ]
        simp only [retQ,AEnds,aresL,ares,List.toList_toArray,↓upd_same]; try simp only [UP,DF,Nc,↓reduceIte,DT]
        exact ⟨_,_,AV.weak.refl _,AS.le.refl _,by rw [hV],hle⟩
     | true =>
      rw [if_neg (fun k=>absurd k.2 (by decide))] at hV
      by_cases h2 : rk = 2
      ·refine wS fun K hK=>?_
       simp only [↓DN,Qa,Qb,Qc,Qd,Qe,Qf,Qg,Qh,reduceCtorEq,↓reduceIte,Na,Nb,Nc,Nk,Nf,Ng,Nh,Za,Zb,Zc,TT,int_eq_yes h2]
       refine hK _ _ ?_;clear hK K
       refine wC fun X Y hX hY=>?_
       simp only [UP,DF,Nc,↓reduceIte,DB]
       refine hY ?_;clear hX hY X Y
       refine wK fun K2 hK2=>?_
       by_cases he : re = l3 + 1
       ·rw [if_neg (by rintro (k | k); exact k.2 he; omega)] at hV
        refine wS fun K hK=>?_
        simp only [↓DN,Qa,Qb,Qc,Qd,Qe,Qf,Qg,Qh,reduceCtorEq,↓reduceIte,Na,Nb,Nc,Nk,Nf,Ng,Nh,Za,Zb,Zc,TT,int_eq_yes h2,hl5,e41,int_bne_false he]
        refine hK _ _ ?_;clear hK K
        refine wC fun X Y hX hY=>?_
        simp only [UP,DF,Nc,↓reduceIte,DB]
        refine hY ?_;clear hX hY X Y
        have h1 : rk≠1:=by omega
        refine wE fun K hK=>?_
        simp only [↓DN,Qa,Qb,Qc,Qd,Qe,Qf,Qg,Qh,reduceCtorEq,↓reduceIte,Na,Nb,Nc,Nk,Nf,Ng,Nh,Za,Zb,Zc,TT,int_eq_no h1]
        refine hK _ _ ?_;clear hK K
        refine hK2 _ _ ?_;clear hK2 K2
        refine wC fun X Y hX hY=>?_
        simp only [UP,DF,Nc,↓reduceIte,DB]
        refine hY ?_;clear hX hY X Y
        refine awp_skip ?_
        refine hK _ _ ?_;clear hK K
        refine wS fun K hK=>?_
        simp only [↓DN,Qa,Qb,Qc,Qd,Qe,Qf,Qg,Qh,reduceCtorEq,↓reduceIte,Na,Nb,Nc,Nk,Nf,Ng,Nh,Za,Zb,Zc,TT]
        refine hK _ _ ?_;clear hK K
        refine awp_ret ?_
        try simp only [thenQ,blockQ]
        simp only [retQ,AEnds,aresL,ares,List.toList_toArray,↓upd_same]; try simp only [UP,DF,Nc,↓reduceIte,DT]
        exact ⟨_,_,AV.weak.refl _,AS.le.refl _,by rw [hV],hle⟩
       ·rw [if_pos (.inl ⟨h2,he⟩)] at hV
        refine wS fun K hK=>?_
        simp only [↓DN,Qa,Qb,Qc,Qd,Qe,Qf,Qg,Qh,reduceCtorEq,↓reduceIte,Na,Nb,Nc,Nk,Nf,Ng,Nh,Za,Zb,Zc,TT,int_eq_yes h2,hl5,e41,int_bne_true he]
        refine hK _ _ ?_;clear hK K
        refine wC fun X Y hX hY=>?_
        simp only [UP,DF,Nc,↓reduceIte,DB]
        refine hX ?_;clear hX hY X Y
        refine awp_skip ?_
        refine hK2 _ _ ?_;clear hK2 K2
        refine wC fun X Y hX hY=>?_
        simp only [UP,DF,Nc,↓reduceIte,DB]
        refine hX ?_;clear hX hY X Y
        refine wS fun K hK=>?_
        simp only [↓DN,Qa,Qb,Qc,Qd,Qe,Qf,Qg,Qh,reduceCtorEq,↓reduceIte,Na,Nb,Nc,Nk,Nf,Ng,Nh,Za,Zb,Zc,TT]
        refine hK _ _ ?_;clear hK K
        refine awp_ret ?_
        try simp only [thenQ,blockQ]
        simp only [retQ,AEnds,aresL,ares,List.toList_toArray,↓upd_same]; try simp only [UP,DF,Nc,↓reduceIte,DT]
        exact ⟨_,_,AV.weak.refl _,AS.le.refl _,by rw [hV],hle⟩
      ·refine wS fun K hK=>?_
       simp only [↓DN,Qa,Qb,Qc,Qd,Qe,Qf,Qg,Qh,reduceCtorEq,↓reduceIte,Na,Nb,Nc,Nk,Nf,Ng,Nh,Za,Zb,Zc,TT,int_eq_no h2]
       refine hK _ _ ?_;clear hK K
       refine wC fun X Y hX hY=>?_
       simp only [UP,DF,Nc,↓reduceIte,DB]
       refine hY ?_;clear hX hY X Y
       refine wK fun K2 hK2=>?_
       refine wS fun K hK=>?_
       simp only [↓DN,Qa,Qb,Qc,Qd,Qe,Qf,Qg,Qh,reduceCtorEq,↓reduceIte,Na,Nb,Nc,Nk,Nf,Ng,Nh,Za,Zb,Zc,TT,int_eq_no h2]
       refine hK _ _ ?_;clear hK K
       refine wC fun X Y hX hY=>?_
       simp only [UP,DF,Nc,↓reduceIte,DB]
       refine hY ?_;clear hX hY X Y
       by_cases h1 : rk = 1
       ·by_cases he : re≤l3
        ·rw [if_pos (.inr ⟨h1,rfl,he⟩)] at hV
         refine wE fun K hK=>?_
         simp only [↓DN,Qa,Qb,Qc,Qd,Qe,Qf,Qg,Qh,reduceCtorEq,↓reduceIte,Na,Nb,Nc,Nk,Nf,Ng,Nh,Za,Zb,Zc,TT,int_eq_yes h1,hl5,decide_eq_true he]
         refine hK _ _ ?_;clear hK K
         refine hK2 _ _ ?_;clear hK2 K2
         refine wC fun X Y hX hY=>?_
         simp only [UP,DF,Nc,↓reduceIte,DB]
         refine hX ?_;clear hX hY X Y
         refine wS fun K hK=>?_
         simp only [↓DN,Qa,Qb,Qc,Qd,Qe,Qf,Qg,Qh,reduceCtorEq,↓reduceIte,Na,Nb,Nc,Nk,Nf,Ng,Nh,Za,Zb,Zc,TT]
         refine hK _ _ ?_;clear hK K
         refine awp_ret ?_
         try simp only [thenQ,blockQ]
         simp only [retQ,AEnds,aresL,ares,List.toList_toArray,↓upd_same]; try simp only [UP,DF,Nc,↓reduceIte,DT]
         exact ⟨_,_,AV.weak.refl _,AS.le.refl _,by rw [hV],hle⟩
        ·rw [if_neg (by rintro (k | k); exact h2 k.1; exact he k.2.2)] at hV
         refine wE fun K hK=>?_
         simp only [↓DN,Qa,Qb,Qc,Qd,Qe,Qf,Qg,Qh,reduceCtorEq,↓reduceIte,Na,Nb,Nc,Nk,Nf,Ng,Nh,Za,Zb,Zc,TT,int_eq_yes h1,hl5,decide_eq_false he]
         refine hK _ _ ?_;clear hK K
         refine hK2 _ _ ?_;clear hK2 K2
         refine wC fun X Y hX hY=>?_
         simp only [UP,DF,Nc,↓reduceIte,DB]
         refine hY ?_;clear hX hY X Y
         refine awp_skip ?_
         refine hK _ _ ?_;clear hK K
         refine wS fun K hK=>?_
         simp only [↓DN,Qa,Qb,Qc,Qd,Qe,Qf,Qg,Qh,reduceCtorEq,↓reduceIte,Na,Nb,Nc,Nk,Nf,Ng,Nh,Za,Zb,Zc,TT]
         refine hK _ _ ?_;clear hK K
         refine awp_ret ?_
         try simp only [thenQ,blockQ]
         simp only [retQ,AEnds,aresL,ares,List.toList_toArray,↓upd_same]; try simp only [UP,DF,Nc,↓reduceIte,DT]
         exact ⟨_,_,AV.weak.refl _,AS.le.refl _,by rw [hV],hle⟩
       ·rw [if_neg (by rintro (k | k); exact h2 k.1; exact h1 k.1)] at hV
        refine wE fun K hK=>?_
        simp only [↓DN,Qa,Qb,Qc,Qd,Qe,Qf,Qg,Qh,reduceCtorEq,↓reduceIte,Na,Nb,Nc,Nk,Nf,Ng,Nh,Za,Zb,Zc,TT,int_eq_no h1]
        refine hK _ _ ?_;clear hK K
        refine hK2 _ _ ?_;clear hK2 K2
        refine wC fun X Y hX hY=>?_
        simp only [UP,DF,Nc,↓reduceIte,DB]
        refine hY ?_;clear hX hY X Y
        refine awp_skip ?_
        refine hK _ _ ?_;clear hK K
        refine wS fun K hK=>?_
        simp only [↓DN,Qa,Qb,Qc,Qd,Qe,Qf,Qg,Qh,reduceCtorEq,↓reduceIte,Na,Nb,Nc,Nk,Nf,Ng,Nh,Za,Zb,Zc,TT]
        refine hK _ _ ?_;clear hK K
        refine awp_ret ?_
        try simp only [thenQ,blockQ]
        simp only [retQ,AEnds,aresL,ares,List.toList_toArray,↓upd_same]; try simp only [UP,DF,Nc,↓reduceIte,DT]
        exact ⟨_,_,AV.weak.refl _,AS.le.refl _,by rw [hV],hle⟩
 ·rw [if_pos hr] at hV
  rw [decide_eq_false hr]
  simp only [↓DM,pval,DX,Nz,↓DN,Qa,Qb,Qc,Qd,Qe,Qf,Qg,Qh,reduceCtorEq,↓reduceIte,Na,Nb,Nc,Nk,Nf,Ng,Nh,Za,Zb,Zc,TT]
  refine hK _ _ ?_;clear hK K
  refine wC fun X Y hX hY=>?_
  simp only [UP,DF,Nc,↓reduceIte,DB]
  refine hX ?_;clear hX hY X Y
  refine wS fun K hK=>?_
  simp only [↓DN,Qa,Qb,Qc,Qd,Qe,Qf,Qg,Qh,reduceCtorEq,↓reduceIte,Na,Nb,Nc,Nk,Nf,Ng,Nh,Za,Zb,Zc,TT]
  refine hK _ _ ?_;clear hK K
  refine awp_ret ?_
  try simp only [thenQ,blockQ]
  simp only [retQ,AEnds,aresL,ares,List.toList_toArray,↓upd_same]; try simp only [UP,DF,Nc,↓reduceIte,DT]
  exact ⟨_,_,AV.weak.refl _,AS.le.refl _,by rw [hV],hle⟩
end Go.Proofs.Ytcjifoccjlpapaa
namespace Go.Proofs.Ytcjifoccjlpapaa
open Go Go.AM Go.Proofs
variable {Γ : Nat→List AV}
theorem own_none_le {a b : AS} {t : Nat} (h : a.le b) (k : b.own t = none) : a.own t = none:=by
 cases ho : a.own t with
 | none=>rfl
 | some e=>rw [h.own t e ho] at k; cases k
theorem zrow5 : zrow 5 [AV.v (.int .i64 0),.v (.int .i64 0),.v (.int .i64 0),.v (.int .i64 0),.v (.int .i64 0)] = [AV.v (.int .i64 0),.v (.int .i64 0),.v (.int .i64 0),.v (.int .i64 0),.v (.int .i64 0)]:=rfl
theorem ledAdd_calls {s0 s : AS} {p : Nat} {L : LedV} {gs : List GEnt} {gt ge b1 b2 : Nat} (h : LedS s0 s p L gs gt ge b1 b2) (hi : L.inv) (hc : 0≤L.count∧L.count≤2 ^ 40) (hg : gs.length≤2 ^ 40) (r : Rec) :
  ACalls Try.prog Γ 11 [.ptr p 0,.agg r.cells] s (fun v s'=>v = .v (.int .i64 (checkV L r))∧∃ gs' gt' ge',LedS s0 s' p (addV L r) gs' gt' ge' b1 b2):=by
 refine acalls_body Try.func11 rfl Try.ntmps11 Try.results11 (by simp) ?_
 have ho:=h.obj
 have hm1:=h.m1
 have hm2:=h.m2
 have hck:=ledCheck_calls (Γ:=Γ) h hi r
 have hfe:=find_grp r.group gs
 have hz : azero Try.prog 36 = some (.slice none 0 0):=by kernel_rfl
 have hkb : keyPlain (.int .i64) (.int .i64 r.bucket) = true:=rfl
 have hkg : keyPlain .string (.string ⟨r.group.toArray⟩) = true:=rfl
 have hcase:=lookE (gs:=gs) r.group
 rw [← h.val] at hcase
 have hss:=fun hn=>set_shr r.bucket L.shr hn
 have hsg:=fun v=>set_grp r.group v gs
 obtain ⟨V,hV⟩ : ∃ V,V = checkV L r:=⟨_,rfl⟩
 rw [← hV] at hck ⊢
 have hadd0 : V≠0→addV L r = L:=fun k=>by unfold addV; rw [← hV,if_pos k]
 have hadd3 : V = 0→r.kind = 3→addV L r = ⟨L.count + 1,r.time,L.gs,L.shr ++ [r.bucket]⟩:=fun k k3=>by unfold addV; rw [← hV,if_neg (fun q=>q k),if_pos k3]
 have hadde : V = 0→r.kind≠3→addV L r = ⟨L.count + 1,r.time,setE r.group (entsOf r.group L.gs ++ [entOf L r]) L.gs,L.shr⟩:=fun k k3=>by unfold addV; rw [← hV,if_neg (fun q=>q k),if_neg k3]
 have hnot : V = 0→r.kind = 3→r.bucket ∉ L.shr:=by
  intro k k3 hm
  rw [k] at hV
  unfold checkV at hV
  by_cases a : ¬ r.right
  ·rw [if_pos a] at hV
   cases hV
  ·rw [if_neg a] at hV
   by_cases b : r.time < L.time
   ·rw [if_pos b] at hV
    cases hV
   ·rw [if_neg b,if_pos k3,if_pos hm] at hV
    cases hV
 obtain ⟨LA,hLA⟩ : ∃ LA,LA = addV L r:=⟨_,rfl⟩
 rw [← hLA] at hadd0 hadd3 hadde ⊢
 unfold entOf at hadde
 have e1 : iadd .i64 L.count 1 = L.count + 1:=iadd_i64 (by omega)
 unfold ledC at ho
 obtain ⟨rk,rg,re,rt,rb,ry,rtr,rsc,rw'⟩:=r
 unfold Rec.cells at *
 simp only at *
 unfold bytesV at *
 clear hV hLA
 obtain ⟨VR,hVR⟩ : ∃ VR,VR = AV.rop [.v (.int .i64 rk),.sl 1 rg.length (rg.map byteV) .any,.v (.int .i64 re),.v (.int .i64 rt),.v (.int .i64 rb),.sl 1 ry.length (ry.map byteV) .any,.sl 1 rtr.length (rtr.map byteV) .any,.sl 1 rsc.length (rsc.map byteV) .any,.sl 1 rw'.length (rw'.map byteV) .any]:=⟨_,rfl⟩
 refine awp_reg_frz 3 (by decide) ?_
 intro K hK
 simp only [↓DM,pval,DX,Nz,↓DN,Qa,Qb,Qc,Qd,Qe,Qf,Qg,Qh,reduceCtorEq,↓reduceIte,Na,Nb,Nc,Nk,Nf,Ng,Nh,Za,Zb,Zc,TT]
 intro o3 q3
 refine hK _ _ o3 _ (by simp only [upd,Nc,↓reduceIte]) q3 ?_
 clear hK K q3
 refine wK fun K hK=>?_
 refine wS fun K hK=>?_
 simp only [↓DN,Qa,Qb,Qc,Qd,Qe,Qf,Qg,Qh,reduceCtorEq,↓reduceIte,Na,Nb,Nc,Nk,Nf,Ng,Nh,Za,Zb,Zc,TT]
 refine acallk hck ?_
 rintro r s1 ⟨rfl,rfl⟩
 simp only [↓DM,pval,DX,Nz,↓DN,Qa,Qb,Qc,Qd,Qe,Qf,Qg,Qh,reduceCtorEq,↓reduceIte,Na,Nb,Nc,Nk,Nf,Ng,Nh,Za,Zb,Zc,TT]
 refine hK _ _ ?_;clear hK K
 by_cases hv : V = 0
 ·refine wS fun K hK=>?_
  simp only [↓DN,Qa,Qb,Qc,Qd,Qe,Qf,Qg,Qh,reduceCtorEq,↓reduceIte,Na,Nb,Nc,Nk,Nf,Ng,Nh,Za,Zb,Zc,TT,int_bne_false hv]
  refine hK _ _ ?_;clear hK K
  refine wC fun X Y hX hY=>?_
  simp only [UP,DF,Nc,↓reduceIte,DB]
  refine hY ?_;clear hX hY X Y
  refine awp_skip ?_
  refine hK _ _ ?_;clear hK K
  refine wK fun K hK=>?_
  have hJ : ∀ (E : Env) (s5 : AS) (xg : AV),E 0 = .ptr p 0→E 3 = VR→s5.objs p = some [.v (.int .i64 L.count),.v (.int .i64 L.time),xg,.v (.map (some b1)),.v (.map (some b2))] →
    (∃ gs' gt' ge',LedS s0 (s5.set p [.v (.int .i64 (L.count + 1)),.v (.int .i64 rt),xg,.v (.map (some b1)),.v (.map (some b2))]) p LA gs' gt' ge' b1 b2)→K E s5:=by
   intro E s5 xg g0 g3 hob hpost
   refine hK _ _ ?_;clear hK K
   refine wS fun K hK=>?_
   simp only [↓DN,Qa,Qb,Qc,Qd,Qe,Qf,Qg,Qh,reduceCtorEq,↓reduceIte,Na,Nb,Nc,Nk,Nf,Ng,Nh,Za,Zb,Zc,TT,g0,hob,e1]
   refine hK _ _ ?_;clear hK K
   refine wS fun K hK=>?_
   simp only [↓DN,Qa,Qb,Qc,Qd,Qe,Qf,Qg,Qh,reduceCtorEq,↓reduceIte,Na,Nb,Nc,Nk,Nf,Ng,Nh,Za,Zb,Zc,TT,g0,g3,hVR,AS.set_objs_same]
   refine hK _ _ ?_;clear hK K
   refine wS fun K hK=>?_
   simp only [↓DN,Qa,Qb,Qc,Qd,Qe,Qf,Qg,Qh,reduceCtorEq,↓reduceIte,Na,Nb,Nc,Nk,Nf,Ng,Nh,Za,Zb,Zc,TT]
   refine hK _ _ ?_;clear hK K
   refine awp_ret ?_
   try simp only [thenQ,blockQ]
   simp only [retQ,AEnds,aresL,ares,List.toList_toArray,↓upd_same]; try simp only [UP,DF,Nc,↓reduceIte,DT]
   rw [hv]
   exact ⟨_,_,AV.weak.refl _,AS.le.refl _,rfl,hpost⟩
  clear hK
  by_cases h3 : rk = 3
  ·have hn:=hnot hv h3
   refine wS fun K hK=>?_
   simp only [↓DN,Qa,Qb,Qc,Qd,Qe,Qf,Qg,Qh,reduceCtorEq,↓reduceIte,Na,Nb,Nc,Nk,Nf,Ng,Nh,Za,Zb,Zc,TT,int_eq_yes h3]
   refine hK _ _ ?_;clear hK K
   refine wC fun X Y hX hY=>?_
   simp only [UP,DF,Nc,↓reduceIte,DB]
   refine hX ?_;clear hX hY X Y
   refine awp_drw_end T.mixed [3,6] (by kernel_rfl) ?_
   intro K hK
   simp only [↓DM,pval,DX,Nz,↓DN,Qa,Qb,Qc,Qd,Qe,Qf,Qg,Qh,reduceCtorEq,↓reduceIte,Na,Nb,Nc,Nk,Nf,Ng,Nh,Za,Zb,Zc,TT,ho,amOf,avOf,hm2,Try.underlying56,Try.underlying3,hkb,hss hn]
   refine hK _ _ ?_;clear hK K
   refine hJ _ _ (grpAV gs gt ge) (by simp only [upd,initE,List.getD_cons_zero,List.getD_cons_succ,Nc,↓reduceIte]) (by rw [hVR]; exact (by simp only [upd,Nc,↓reduceIte])) (by rw [AS.setMap_objs]; exact ho) ⟨gs,gt,ge,?_⟩
   rw [hadd3 hv h3]
   exact {
    val:=h.val
    obj:=by rw [AS.set_objs_same]; rfl
    m1:=by rw [AS.set_maps,AS.setMap_ne _ h.ne]; exact hm1
    m2:=by rw [AS.set_maps,AS.setMap_same,List.map_append]; rfl
    ne:=h.ne
    own:=h.own
    nodup:=h.nodup
    gown:=h.gown
    p0:=h.p0
    b10:=h.b10
    b20:=h.b20
    le:=AS.le_set (AS.le_setMap h.le h.b20 _) h.p0 _ }
  ·refine wS fun K hK=>?_
   simp only [↓DN,Qa,Qb,Qc,Qd,Qe,Qf,Qg,Qh,reduceCtorEq,↓reduceIte,Na,Nb,Nc,Nk,Nf,Ng,Nh,Za,Zb,Zc,TT,int_eq_no h3]
   refine hK _ _ ?_;clear hK K
   refine wC fun X Y hX hY=>?_
   simp only [UP,DF,Nc,↓reduceIte,DB]
   refine hY ?_;clear hX hY X Y
   refine wS fun K hK=>?_
   simp only [↓DN,Qa,Qb,Qc,Qd,Qe,Qf,Qg,Qh,reduceCtorEq,↓reduceIte,Na,Nb,Nc,Nk,Nf,Ng,Nh,Za,Zb,Zc,TT]
   refine hK _ _ ?_;clear hK K
   rcases hcase with ⟨q1,q2,_⟩ | ⟨x,hx,q1,q2,q3,_⟩
   ·rw [q1] at hfe
    simp only [Option.map_none] at hfe
    refine wK fun K hK=>?_
    have hN : ∀ (E : Env) (s5 : AS) (gt' ge' : Nat),E 0 = .ptr p 0→E 3 = VR→E 6 = .v (.string ⟨rg.toArray⟩)→s5.objs p = some [.v (.int .i64 L.count),.v (.int .i64 L.time),.sl 1 (gs.length + 1) ((gs.map fun x=>strC x.g) ++ [strC rg]) (.own gt' ge'),.v (.map (some b1)),.v (.map (some b2))] →
      s5.maps = s1.maps→s5.own gt' = some ge'→(∀ x ∈ gs,s5.own x.t = some x.e)→s0.own gt' = none→gt' ∉ gs.map GEnt.t→s0.le s5→K E s5:=by
     intro E s5 gt' ge' g0 g3 g6 hob hmp how hox h0 hnin hle5
     refine hK _ _ ?_;clear hK K
     have hm1' : s5.maps b1 = some (gs.map GEnt.kv):=by rw [hmp]; exact hm1
     have hix : (gs.findIdx? fun x=>decide (rg = x.g)) = none:=by
      rw [List.findIdx?_eq_none_iff]
      intro x hx
      have:=List.find?_eq_none.1 q1 x hx
      simpa using this
     have hsgv : ∀ v,amSet .string (.string ⟨rg.toArray⟩) v (gs.map GEnt.kv) = some (gs.map GEnt.kv ++ [(.string ⟨rg.toArray⟩,v)]):=fun v=>by rw [hsg v,hix]
     generalize hXG : (AV.sl 1 (gs.length + 1) ((gs.map fun x=>strC x.g) ++ [strC rg]) (.own gt' ge')) = XG at hob
     refine awp_mrk_end T.mixed [(p,[.v (.int .i64 L.count),.v (.int .i64 L.time),XG,.v (.map (some b1)),.v (.map (some b2))])] [10,25,26] [3,8,14] [] (by kernel_rfl) (by simp only [Pres_cons,Pres_nil,and_true]; simp [AS.set,upd,hob]) ?_
     intro K hK
     simp only [↓AXr_nil,↓AXr_cons,gval,lval,fzGet_cons,fzGet_nil,Pres_cons,Pres_nil,List.any_cons,List.any_nil,List.contains_cons,List.contains_nil,Nat.reduceBEq,Bool.or_false,Bool.or_true,Bool.or_self,Bool.false_or,↓DN,Qa,Qb,Qc,Qd,Qe,Qf,Qg,Qh,reduceCtorEq,↓reduceIte,Na,Nb,Nc,Nk,Nf,Ng,Nh,Za,Zb,Zc,TT,g0,g3,hVR,g6,hob,amOf,avOf,hm1',AS.gain_maps,AS.setMap_objs,Try.underlying55,Try.underlying9,hz,hkg,hfe,hsgv,zrow5,List.replicate_succ,List.replicate_zero]
     intro t ht
     have ht0 : s0.own t = none:=own_none_le hle5 ht
     have htg : t≠gt':=by rintro rfl; rw [how] at ht; cases ht
     have htx : ∀ x ∈ gs,t≠x.t:=by
      rintro x hx rfl
      rw [hox x hx] at ht
      cases ht
     refine hK _ _ ?_
     refine hJ _ _ XG (by simp only [upd,g0,Nc,↓reduceIte]) (by simp only [upd,g3,Nc,↓reduceIte]) (by rw [AS.setMap_objs,AS.gain_objs]; exact hob) ⟨gs ++ [⟨rg,[⟨L.count,rk,re,rt,rb⟩],t,0⟩],gt',ge',?_⟩
     rw [hadde hv h3,q2]
     exact {
      val:=by rw [setE_new (hasE_none q1 h.val)]; simp [GEnt.val,h.val]
      obj:=by rw [AS.set_objs_same,← hXG]; unfold ledC grpAV; simp
      m1:=by rw [AS.set_maps,AS.setMap_same]; simp [GEnt.kv,GEnt.av,rowC,EntV.cells]
      m2:=by rw [AS.set_maps,AS.setMap_ne _ h.ne.symm,AS.gain_maps,hmp]; exact hm2
      ne:=h.ne
      own:=by
       intro x hx
       rw [List.mem_append,List.mem_singleton] at hx
       rcases hx with hx | rfl
       ·have e:=htx x hx
        refine ⟨?_,(h.own x hx).2⟩
        simp [AS.gain,AS.set,AS.setMap,upd,e.symm,hox x hx]
       ·exact ⟨by simp [AS.gain,AS.set,AS.setMap],ht0⟩
      nodup:=by
       rw [List.map_append,List.nodup_append]
       refine ⟨h.nodup,by simp,?_⟩
       intro a ha b hb e
       simp only [List.map_cons,List.map_nil,List.mem_singleton] at hb
       obtain ⟨x,hx,rfl⟩:=List.mem_map.1 ha
       exact htx x hx (by rw [e,hb])
      gown:=by
       intro _
       refine ⟨by simp [AS.gain,AS.set,AS.setMap,upd,htg.symm,how],h0,?_⟩
       rw [List.map_append,List.mem_append]
       rintro (hx | hx)
       ·exact hnin hx
       ·simp only [List.map_cons,List.map_nil,List.mem_singleton] at hx
        exact htg hx.symm
      p0:=h.p0
      b10:=h.b10
      b20:=h.b20
      le:=AS.le_set (AS.le_setMap (AS.le_gain hle5 ht0 0) h.b10 _) h.p0 _ }
    clear hK
    refine wS fun K hK=>?_
    simp only [↓DN,Qa,Qb,Qc,Qd,Qe,Qf,Qg,Qh,reduceCtorEq,↓reduceIte,Na,Nb,Nc,Nk,Nf,Ng,Nh,Za,Zb,Zc,TT,ho,amOf,avOf,hm1,Try.underlying55,Try.underlying9,hz,hkg,hfe,show (((0 : Nat) : Int) == 0) = true from rfl]
    refine hK _ _ ?_;clear hK K
    refine wC fun X Y hX hY=>?_
    simp only [UP,DF,Nc,↓reduceIte,DB]
    refine hX ?_;clear hX hY X Y
    have hps : ∀ o,s0.objs o = none→True:=fun _ _=>trivial
    by_cases hgs : gs = []
    ·have hgv : grpAV gs gt ge = nilS:=if_pos hgs
     rw [hgv] at ho
     unfold nilS at ho
     refine wE fun K hK=>?_
     simp only [↓DN,Qa,Qb,Qc,Qd,Qe,Qf,Qg,Qh,reduceCtorEq,↓reduceIte,Na,Nb,Nc,Nk,Nf,Ng,Nh,Za,Zb,Zc,TT,ho,List.replicate_succ,List.replicate_zero]
     intro t ht
     have ht0 : s0.own t = none:=own_none_le h.le ht
     refine hK _ _ (hN _ _ t 0 (by simp only [upd,initE,List.getD_cons_zero,List.getD_cons_succ,Nc,↓reduceIte]) (by rw [hVR]; exact (by simp only [upd,Nc,↓reduceIte])) (by simp only [upd,Nc,↓reduceIte]) ?_ rfl (by simp [AS.gain,AS.set]) (by rw [hgs]; intro x hx; cases hx) ht0 (by rw [hgs]; simp) (AS.le_set (AS.le_gain h.le ht0 0) h.p0 _))
     rw [AS.set_objs_same,hgs]
     rfl
    ·obtain ⟨w1,w2,w3⟩:=h.gown hgs
     have hgv : grpAV gs gt ge = .sl 1 gs.length (gs.map fun x=>strC x.g) (.own gt ge):=if_neg hgs
     rw [hgv] at ho
     refine wE fun K hK=>?_
     simp only [↓DN,Qa,Qb,Qc,Qd,Qe,Qf,Qg,Qh,reduceCtorEq,↓reduceIte,Na,Nb,Nc,Nk,Nf,Ng,Nh,Za,Zb,Zc,TT,ho,w1,List.replicate_succ,List.replicate_zero]
     refine ⟨by omega,by omega,hK _ _ (hN _ _ gt (ge + 1) (by simp only [upd,initE,List.getD_cons_zero,List.getD_cons_succ,Nc,↓reduceIte]) (by rw [hVR]; exact (by simp only [upd,Nc,↓reduceIte])) (by simp only [upd,Nc,↓reduceIte]) ?_ rfl (by simp [AS.gain,AS.set]) ?_ w2 w3 (AS.le_set (AS.le_gain h.le w2 _) h.p0 _))⟩
     ·rw [AS.set_objs_same]
      rfl
     ·intro x hx
      have e : x.t≠gt:=fun e=>w3 (e ▸ List.mem_map_of_mem hx)
      simp [AS.gain,AS.set,upd,e,(h.own x hx).1]
   ·rw [q1] at hfe
    simp only [Option.map_some,GEnt.av] at hfe
    obtain ⟨hne,hl40⟩:=hi.gs h.val x hx
    obtain ⟨i,hii,hxi,hix⟩:=find_idx q1
    have hsgv : ∀ v,amSet .string (.string ⟨rg.toArray⟩) v (gs.map GEnt.kv) = some ((gs.map GEnt.kv).modify i fun y=>(y.1,v)):=fun v=>by rw [hsg v,hix]
    have hl0 : 0 < x.es.length:=List.length_pos_iff.2 hne
    have e0 : ((x.es.length : Int) == 0) = false:=by rw [beq_eq_false_iff_ne]; omega
    obtain ⟨w1,w2⟩:=h.own x hx
    generalize hXG : grpAV gs gt ge = XG at ho
    generalize hXE : rowC EntV.cells x.es = XE at *
    refine wK fun K hK=>?_
    refine wS fun K hK=>?_
    simp only [↓DN,Qa,Qb,Qc,Qd,Qe,Qf,Qg,Qh,reduceCtorEq,↓reduceIte,Na,Nb,Nc,Nk,Nf,Ng,Nh,Za,Zb,Zc,TT,ho,amOf,avOf,hm1,Try.underlying55,Try.underlying9,hz,hkg,hfe,e0]
    refine hK _ _ ?_;clear hK K
    refine wC fun X Y hX hY=>?_
    simp only [UP,DF,Nc,↓reduceIte,DB]
    refine hY ?_;clear hX hY X Y
    refine awp_skip ?_
    refine hK _ _ ?_;clear hK K
    refine awp_mrk_end T.mixed [(p,[.v (.int .i64 L.count),.v (.int .i64 L.time),XG,.v (.map (some b1)),.v (.map (some b2))])] [10,25,26] [3,8,14] [] (by kernel_rfl) (by simp only [Pres_cons,Pres_nil,and_true]; simp [AS.set,upd,ho]) ?_
    intro K hK
    simp only [↓AXr_nil,↓AXr_cons,gval,lval,fzGet_cons,fzGet_nil,Pres_cons,Pres_nil,List.any_cons,List.any_nil,List.contains_cons,List.contains_nil,Nat.reduceBEq,Bool.or_false,Bool.or_true,Bool.or_self,Bool.false_or,↓DN,Qa,Qb,Qc,Qd,Qe,Qf,Qg,Qh,reduceCtorEq,↓reduceIte,Na,Nb,Nc,Nk,Nf,Ng,Nh,Za,Zb,Zc,TT,ho,amOf,avOf,hm1,w1,AS.gain_maps,AS.setMap_objs,Try.underlying55,Try.underlying9,hz,hkg,hfe,hsgv,zrow5,List.replicate_succ,List.replicate_zero]
    refine ⟨by omega,by omega,?_⟩
    refine hK _ _ ?_
    refine hJ _ _ XG (by simp only [upd,initE,List.getD_cons_zero,List.getD_cons_succ,Nc,↓reduceIte]) (by rw [hVR]; exact (by simp only [upd,Nc,↓reduceIte])) (by rw [AS.setMap_objs,AS.gain_objs]; exact ho) ⟨gs.set i ⟨rg,x.es ++ [⟨L.count,rk,re,rt,rb⟩],x.t,x.e + 1⟩,gt,ge,?_⟩
    rw [hadde hv h3,q3]
    exact {
     val:=by rw [h.val]; exact setE_set hii hxi q1 hix q2
     obj:=by rw [AS.set_objs_same,← hXG]; unfold ledC; rw [grpAV_set hii hxi q2]
     m1:=by rw [AS.set_maps,AS.setMap_same]; rw [← hXE]; exact congrArg some (kv_set (d:=⟨L.count,rk,re,rt,rb⟩) hii hxi q2)
     m2:=by rw [AS.set_maps,AS.setMap_ne _ h.ne.symm,AS.gain_maps]; exact hm2
     ne:=h.ne
     own:=by
      intro y hy
      have hs : ((s1.gain x.t (x.e + 1)).setMap b1 ((gs.map GEnt.kv).modify i fun y=>(y.1,AV.sl 5 (x.es.length + 1) (XE ++ [.v (.int .i64 L.count),.v (.int .i64 rk),.v (.int .i64 re),.v (.int .i64 rt),.v (.int .i64 rb)]) (.own x.t (x.e + 1))))).own = upd s1.own x.t (some (x.e + 1)):=rfl
      rcases mem_set_nodup h.nodup hii hxi hy with rfl | ⟨hy,hyt⟩
      ·exact ⟨by simp [AS.gain,AS.set,AS.setMap],w2⟩
      ·exact ⟨by simp [AS.gain,AS.set,AS.setMap,upd,hyt,(h.own y hy).1],(h.own y hy).2⟩
     nodup:=by rw [toks_set hii hxi]; exact h.nodup
     gown:=by
      intro _
      have hgs : gs≠[]:=fun e=>by rw [e] at hx; cases hx
      obtain ⟨a1,a2,a3⟩:=h.gown hgs
      have e : gt≠x.t:=fun e=>a3 (e ▸ List.mem_map_of_mem hx)
      refine ⟨by simp [AS.gain,AS.set,AS.setMap,upd,e,a1],a2,?_⟩
      rw [toks_set hii hxi]
      exact a3
     p0:=h.p0
     b10:=h.b10
     b20:=h.b20
     le:=AS.le_set (AS.le_setMap (AS.le_gain h.le w2 _) h.b10 _) h.p0 _ }
 ·refine wS fun K hK=>?_
  simp only [↓DN,Qa,Qb,Qc,Qd,Qe,Qf,Qg,Qh,reduceCtorEq,↓reduceIte,Na,Nb,Nc,Nk,Nf,Ng,Nh,Za,Zb,Zc,TT,int_bne_true hv]
  refine hK _ _ ?_;clear hK K
  refine wC fun X Y hX hY=>?_
  simp only [UP,DF,Nc,↓reduceIte,DB]
  refine hX ?_;clear hX hY X Y
  refine wS fun K hK=>?_
  simp only [↓DN,Qa,Qb,Qc,Qd,Qe,Qf,Qg,Qh,reduceCtorEq,↓reduceIte,Na,Nb,Nc,Nk,Nf,Ng,Nh,Za,Zb,Zc,TT]
  refine hK _ _ ?_;clear hK K
  refine awp_ret ?_
  try simp only [thenQ,blockQ]
  simp only [retQ,AEnds,aresL,ares,List.toList_toArray,↓upd_same]; try simp only [UP,DF,Nc,↓reduceIte,DT]
  rw [hadd0 hv]
  exact ⟨_,_,AV.weak.refl _,AS.le.refl _,rfl,gs,gt,ge,h⟩
end Go.Proofs.Ytcjifoccjlpapaa
namespace Go.Proofs.Ytcjifoccjlpapaa
open Go Go.AM Go.Proofs
variable {Γ : Nat→List AV}
theorem eye_succM (i : Nat) (h : i < 2 ^ 62) : iadd .i64 (i : Int) 1 = ((i + 1 : Nat) : Int):=by
 rw [iadd_i64 (by omega)]
 rfl
theorem take_map {α : Type} (f : α→AV) {l : List α} {i : Nat} (h : i < l.length) : List.take 1 (List.drop i (l.map f)) = [f l[i]]:=by
 rw [List.drop_eq_getElem_cons (by simpa using h),List.getElem_map]
 rfl
theorem tidyL {P : Program} {f : FuncId} {args : List AV} {s : AS} {Q : AV→Prop} (h : ACalls P Γ f args s (fun r s'=>Q r∧s.le s')) : ACalls P Γ f args s (fun r s'=>Q r∧s' = s) :=
 ACalls.forget h fun r s' ⟨h1,h2⟩=>⟨s,h2,h1,rfl⟩
def entsV (l : List EntV) : AV:=.sl 5 l.length (rowC EntV.cells l) .any
theorem cloneEnt_calls (l : List EntV) (hn : l≠[]) (hl : l.length≤2 ^ 40) (s : AS) : ACalls Try.prog Γ 24 [entsV l] s (fun r s'=>r = entsV l∧s' = s):=by
 refine tidyL (Q:=fun r=>r = entsV l) ?_
 refine acalls_body Try.func24 rfl Try.ntmps24 Try.results24 (by simp) ?_
 have h0 : l.length≠0:=fun e=>hn (List.length_eq_zero_iff.1 e)
 have hone : (rowC EntV.cells l).all AV.one = true:=by
  rw [List.all_eq_true]
  intro c hc
  simp only [rowC,List.mem_flatten,List.mem_map] at hc
  obtain ⟨_,⟨n,-,rfl⟩,hc⟩:=hc
  simp only [EntV.cells,List.mem_cons,List.not_mem_nil,or_false] at hc
  rcases hc with rfl | rfl | rfl | rfl | rfl <;> rfl
 unfold entsV
 generalize rowC EntV.cells l = X at *
 refine wS fun K hK=>?_
 simp only [↓DN,Qa,Qb,Qc,Qd,Qe,Qf,Qg,Qh,reduceCtorEq,↓reduceIte,Na,Nb,Nc,Nk,Nf,Ng,Nh,Za,Zb,Zc,TT]
 refine hK _ _ ?_;clear hK K
 refine wK fun K hK=>?_
 refine wS fun K hK=>?_
 simp only [↓DN,Qa,Qb,Qc,Qd,Qe,Qf,Qg,Qh,reduceCtorEq,↓reduceIte,Na,Nb,Nc,Nk,Nf,Ng,Nh,Za,Zb,Zc,TT,h0]
 refine hK _ _ ?_;clear hK K
 refine wC fun X Y hX hY=>?_
 simp only [UP,DF,Nc,↓reduceIte,DB]
 refine hY ?_;clear hX hY X Y
 refine awp_skip ?_
 refine hK _ _ ?_;clear hK K
 refine wS fun K hK=>?_
 simp only [↓DN,Qa,Qb,Qc,Qd,Qe,Qf,Qg,Qh,reduceCtorEq,↓reduceIte,Na,Nb,Nc,Nk,Nf,Ng,Nh,Za,Zb,Zc,TT,h0,hone]
 refine ⟨by omega,by omega,fun t ht=>?_⟩
 refine hK _ _ ?_;clear hK K
 refine awp_ret ?_
 try simp only [thenQ,blockQ]
 simp only [retQ,AEnds,aresL,ares,List.toList_toArray,↓upd_same]; try simp only [UP,DF,Nc,↓reduceIte,DT]
 exact ⟨_,_,AV.weak_any,AS.le.refl _,rfl,AS.le_gain (AS.le.refl s) ht 0⟩
theorem cloneEntNil_calls (s : AS) : ACalls Try.prog Γ 24 [.v (.slice none 0 0)] s (fun r s'=>r = .v (.slice none 0 0)∧s' = s):=by
 refine acalls_body Try.func24 rfl Try.ntmps24 Try.results24 (by simp) ?_
 refine wS fun K hK=>?_
 simp only [↓DN,Qa,Qb,Qc,Qd,Qe,Qf,Qg,Qh,reduceCtorEq,↓reduceIte,Na,Nb,Nc,Nk,Nf,Ng,Nh,Za,Zb,Zc,TT]
 refine hK _ _ ?_;clear hK K
 refine wK fun K hK=>?_
 refine wS fun K hK=>?_
 simp only [↓DN,Qa,Qb,Qc,Qd,Qe,Qf,Qg,Qh,reduceCtorEq,↓reduceIte,Na,Nb,Nc,Nk,Nf,Ng,Nh,Za,Zb,Zc,TT]
 refine hK _ _ ?_;clear hK K
 refine wC fun X Y hX hY=>?_
 simp only [UP,DF,Nc,↓reduceIte,DB]
 refine hX ?_;clear hX hY X Y
 refine wS fun K hK=>?_
 simp only [↓DN,Qa,Qb,Qc,Qd,Qe,Qf,Qg,Qh,reduceCtorEq,↓reduceIte,Na,Nb,Nc,Nk,Nf,Ng,Nh,Za,Zb,Zc,TT]
 refine hK _ _ ?_;clear hK K
 refine awp_ret ?_
 try simp only [thenQ,blockQ]
 simp only [retQ,AEnds,aresL,ares,List.toList_toArray,↓upd_same]; try simp only [UP,DF,Nc,↓reduceIte,DT]
 exact ⟨_,_,AV.weak.refl _,AS.le.refl _,rfl,rfl⟩
theorem ledEntries_calls {s0 s : AS} {p : Nat} {L : LedV} {gs : List GEnt} {gt ge b1 b2 : Nat} (h : LedS s0 s p L gs gt ge b1 b2) (hi : L.inv) (g : List UInt8) :
  ACalls Try.prog Γ 13 [.ptr p 0,bytesV g .any] s (fun r s'=>r = entsV (entsOf g L.gs)∧s' = s):=by
 refine acalls_body Try.func13 rfl Try.ntmps13 Try.results13 (by simp) ?_
 have ho:=h.obj
 have hm:=h.m1
 have hf:=find_grp g gs
 have hz : azero Try.prog 36 = some (.slice none 0 0):=by kernel_rfl
 have hk : keyPlain .string (.string ⟨g.toArray⟩) = true:=rfl
 have hcase:=lookE (gs:=gs) g
 rw [← h.val] at hcase
 unfold ledC at ho
 unfold bytesV
 rcases hcase with ⟨h1,h2,_⟩ | ⟨x,hx,h1,h2,h3,_⟩
 ·rw [h1] at hf
  rw [h2]
  refine wS fun K hK=>?_
  simp only [↓DN,Qa,Qb,Qc,Qd,Qe,Qf,Qg,Qh,reduceCtorEq,↓reduceIte,Na,Nb,Nc,Nk,Nf,Ng,Nh,Za,Zb,Zc,TT]
  refine hK _ _ ?_;clear hK K
  refine awp_drw_seq T.mixed [3,6,7] (by kernel_rfl) ?_
  intro K hK
  simp only [↓DM,pval,DX,Nz,↓DN,Qa,Qb,Qc,Qd,Qe,Qf,Qg,Qh,reduceCtorEq,↓reduceIte,Na,Nb,Nc,Nk,Nf,Ng,Nh,Za,Zb,Zc,TT,ho,amOf,avOf,hm,Try.underlying55,Try.underlying9,hz,hk,hf]
  refine acallk (cloneEntNil_calls _) ?_
  rintro r s1 ⟨rfl,rfl⟩
  simp only [↓DM,pval,DX,Nz,↓DN,Qa,Qb,Qc,Qd,Qe,Qf,Qg,Qh,reduceCtorEq,↓reduceIte,Na,Nb,Nc,Nk,Nf,Ng,Nh,Za,Zb,Zc,TT]
  refine hK _ _ ?_;clear hK K
  refine awp_ret ?_
  try simp only [thenQ,blockQ]
  simp only [retQ,AEnds,aresL,ares,List.toList_toArray,↓upd_same]; try simp only [UP,DF,Nc,↓reduceIte,DT]
  exact ⟨_,_,AV.weak_nil,AS.le.refl _,rfl,rfl⟩
 ·obtain ⟨hne,hl40⟩:=hi.gs h.val x hx
  rw [h1] at hf
  simp only [Option.map_some,GEnt.av] at hf
  rw [h3]
  have hcl:=fun s=>ACalls.weaks (.cons (AV.weak_any (sp:=.own x.t x.e)) .nil) (cloneEnt_calls (Γ:=Γ) x.es hne hl40 s)
  unfold entsV at *
  generalize rowC EntV.cells x.es = X at *
  refine wS fun K hK=>?_
  simp only [↓DN,Qa,Qb,Qc,Qd,Qe,Qf,Qg,Qh,reduceCtorEq,↓reduceIte,Na,Nb,Nc,Nk,Nf,Ng,Nh,Za,Zb,Zc,TT]
  refine hK _ _ ?_;clear hK K
  refine awp_drw_seq T.mixed [3,6,7] (by kernel_rfl) ?_
  intro K hK
  simp only [↓DM,pval,DX,Nz,↓DN,Qa,Qb,Qc,Qd,Qe,Qf,Qg,Qh,reduceCtorEq,↓reduceIte,Na,Nb,Nc,Nk,Nf,Ng,Nh,Za,Zb,Zc,TT,ho,amOf,avOf,hm,Try.underlying55,Try.underlying9,hz,hk,hf]
  refine acallk (hcl _) ?_
  rintro r s1 ⟨rfl,rfl⟩
  simp only [↓DM,pval,DX,Nz,↓DN,Qa,Qb,Qc,Qd,Qe,Qf,Qg,Qh,reduceCtorEq,↓reduceIte,Na,Nb,Nc,Nk,Nf,Ng,Nh,Za,Zb,Zc,TT]
  refine hK _ _ ?_;clear hK K
  refine awp_ret ?_
  try simp only [thenQ,blockQ]
  simp only [retQ,AEnds,aresL,ares,List.toList_toArray,↓upd_same]; try simp only [UP,DF,Nc,↓reduceIte,DT]
  exact ⟨_,_,AV.weak.refl _,AS.le.refl _,rfl,rfl⟩
def grpC (g : List UInt8) : AV:=.sl 1 g.length (g.map byteV) .no
theorem grps_weak (l : List (List UInt8)) : AVs.weak (l.map grpC) (l.map fun g=>bytesV g .any):=by
 induction l with
 | nil=>exact .refl _
 | cons g l ih=>exact .cons AV.weak_any ih
def grpsV (l : List (List UInt8)) : AV:=.sl 1 l.length (l.map fun g=>bytesV g .any) .any
theorem ledGroups_calls {s0 s : AS} {p : Nat} {L : LedV} {gs : List GEnt} {gt ge b1 b2 : Nat} (h : LedS s0 s p L gs gt ge b1 b2) (hg : gs.length≤2 ^ 40) :
  ACalls Try.prog Γ 12 [.ptr p 0] s (fun r s'=>r = grpsV (L.gs.map (·.1))∧s' = s):=by
 refine tidyL (Q:=fun r=>r = grpsV (L.gs.map (·.1))) ?_
 refine acalls_body Try.func12 rfl Try.ntmps12 Try.results12 (by simp) ?_
 have ho:=h.obj
 unfold ledC at ho
 have hL : L.gs.map (·.1) = gs.map (·.g):=by rw [h.val,List.map_map]; rfl
 rw [hL]
 obtain ⟨N,hN⟩ : ∃ N,N = gs.map (·.g):=⟨_,rfl⟩
 have hNl : N.length = gs.length:=by rw [hN,List.length_map]
 rw [← hN]
 by_cases hgs : gs = []
 ·have hgv : grpAV gs gt ge = nilS:=if_pos hgs
  have hN0 : N = []:=by rw [hN,hgs]; rfl
  rw [hgv] at ho
  unfold nilS at ho
  rw [hN0]
  refine wS fun K hK=>?_
  simp only [↓DN,Qa,Qb,Qc,Qd,Qe,Qf,Qg,Qh,reduceCtorEq,↓reduceIte,Na,Nb,Nc,Nk,Nf,Ng,Nh,Za,Zb,Zc,TT]
  refine hK _ _ ?_;clear hK K
  refine wS fun K hK=>?_
  simp only [↓DN,Qa,Qb,Qc,Qd,Qe,Qf,Qg,Qh,reduceCtorEq,↓reduceIte,Na,Nb,Nc,Nk,Nf,Ng,Nh,Za,Zb,Zc,TT]
  refine hK _ _ ?_;clear hK K
  refine wK fun K hK=>?_
  refine wS fun K hK=>?_
  simp only [↓DN,Qa,Qb,Qc,Qd,Qe,Qf,Qg,Qh,reduceCtorEq,↓reduceIte,Na,Nb,Nc,Nk,Nf,Ng,Nh,Za,Zb,Zc,TT,ho]
  refine hK _ _ ?_;clear hK K
  refine awp_block ?_
  refine awp_loop (fun E s'=>E 11 = .v (.int .i64 0)∧E 10 = .v (.int .i64 0)∧E 3 = .v (.slice none 0 0)∧s' = s) (fun _ _=>0) ?_ ?_
  ·exact ⟨by simp only [upd,Nc,↓reduceIte],by simp only [upd,Nc,↓reduceIte]; rfl,by simp only [upd,Nc,↓reduceIte],rfl⟩
  ·rintro E1 s1 ⟨g11,g10,g3,rfl⟩ -
   refine wS fun K hK=>?_
   simp only [↓DN,Qa,Qb,Qc,Qd,Qe,Qf,Qg,Qh,reduceCtorEq,↓reduceIte,Na,Nb,Nc,Nk,Nf,Ng,Nh,Za,Zb,Zc,TT,g11,g10,show decide ((0 : Int) < 0) = false from rfl]
   refine hK _ _ ?_;clear hK K
   refine wK fun K2 hK2=>?_
   refine wC fun X Y hX hY=>?_
   simp only [UP,DF,Nc,↓reduceIte,DB]
   refine hY ?_;clear hX hY X Y
   refine awp_exit ?_
   simp only [thenQ,blockQ,if_true]
   refine hK _ _ ?_;clear hK hK2 K2 K
   refine wS fun K hK=>?_
   simp only [↓DN,Qa,Qb,Qc,Qd,Qe,Qf,Qg,Qh,reduceCtorEq,↓reduceIte,Na,Nb,Nc,Nk,Nf,Ng,Nh,Za,Zb,Zc,TT,g3]
   refine hK _ _ ?_;clear hK K
   refine awp_ret ?_
   try simp only [thenQ,blockQ]
   simp only [retQ,AEnds,aresL,ares,List.toList_toArray,↓upd_same]; try simp only [UP,DF,Nc,↓reduceIte,DT]
   exact ⟨_,_,AV.weak_nil,AS.le.refl _,rfl,AS.le.refl _⟩
 ·obtain ⟨w1,w2,w3⟩:=h.gown hgs
  have hgv : grpAV gs gt ge = .sl 1 gs.length (gs.map fun x=>strC x.g) (.own gt ge):=if_neg hgs
  have hX : (gs.map fun x : GEnt=>strC x.g) = N.map strC:=by rw [hN,List.map_map]; rfl
  rw [hgv,hX,← hNl] at ho
  have hat : ∀ i,(hi : i < N.length)→List.take 1 (List.drop i (N.map strC)) = [.v (.string ⟨N[i].toArray⟩)]:=by
   intro i hi
   exact take_map strC hi
  have htk : ∀ i,(hi : i < N.length)→(N.take (i + 1)).map grpC = (N.take i).map grpC ++ [.sl 1 N[i].length (N[i].map byteV) .no]:=by
   intro i hi
   rw [List.take_succ_eq_append_getElem hi,List.map_append]
   rfl
  generalize hXX : N.map strC = X at *
  refine wS fun K hK=>?_
  simp only [↓DN,Qa,Qb,Qc,Qd,Qe,Qf,Qg,Qh,reduceCtorEq,↓reduceIte,Na,Nb,Nc,Nk,Nf,Ng,Nh,Za,Zb,Zc,TT]
  refine hK _ _ ?_;clear hK K
  refine wS fun K hK=>?_
  simp only [↓DN,Qa,Qb,Qc,Qd,Qe,Qf,Qg,Qh,reduceCtorEq,↓reduceIte,Na,Nb,Nc,Nk,Nf,Ng,Nh,Za,Zb,Zc,TT]
  refine hK _ _ ?_;clear hK K
  refine wK fun K hK=>?_
  refine wS fun K hK=>?_
  simp only [↓DN,Qa,Qb,Qc,Qd,Qe,Qf,Qg,Qh,reduceCtorEq,↓reduceIte,Na,Nb,Nc,Nk,Nf,Ng,Nh,Za,Zb,Zc,TT,ho]
  refine hK _ _ ?_;clear hK K
  refine awp_block ?_
  refine awp_loop (fun E s'=>∃ (i : Nat) (x : AV),i≤N.length∧E 11 = .v (.int .i64 i)∧E 10 = .v (.int .i64 N.length)∧E 9 = .sl 1 N.length X (.own gt ge)∧E 3 = x∧RBuf 1 s s' x i ((N.take i).map grpC)∧s.le s')
   (fun E _=>match E 11 with | .v (.int _ i)=>N.length - i.toNat | _=>0) ?_ ?_
  ·exact ⟨0,nilS,Nat.zero_le _,by simp only [upd,Nc,↓reduceIte]; rfl,by simp only [upd,Nc,↓reduceIte],by simp only [upd,Nc,↓reduceIte],by simp only [upd,Nc,↓reduceIte]; rfl,RBuf.nil _ _ _,AS.le.refl _⟩
  ·rintro E1 s1 ⟨i,x,hi,g11,g10,g9,g3,hx,hle⟩ -
   by_cases hi' : i < N.length
   ·refine wS fun K hK=>?_
    simp only [↓DN,Qa,Qb,Qc,Qd,Qe,Qf,Qg,Qh,reduceCtorEq,↓reduceIte,Na,Nb,Nc,Nk,Nf,Ng,Nh,Za,Zb,Zc,TT,g11,g10,eye_lt_nat,decide_eq_true hi']
    refine hK _ _ ?_;clear hK K
    refine wK fun K2 hK2=>?_
    refine wC fun X Y hX hY=>?_
    simp only [UP,DF,Nc,↓reduceIte,DB]
    refine hX ?_;clear hX hY X Y
    refine awp_skip ?_
    refine hK2 _ _ ?_;clear hK2 K2
    refine wK fun K3 hK3=>?_
    refine awp_block ?_
    have hge : (0 : Int)≤((i : Nat) : Int):=by omega
    have hat':=hat i hi'
    have htk':=htk i hi'
    generalize N[i] = g at *
    refine wS fun K hK=>?_
    simp only [↓DN,Qa,Qb,Qc,Qd,Qe,Qf,Qg,Qh,reduceCtorEq,↓reduceIte,Na,Nb,Nc,Nk,Nf,Ng,Nh,Za,Zb,Zc,TT,g9,g11,hge,eye_lt_nat,hi',hat']
    refine hK _ _ ?_;clear hK K
    have hnx : ∀ (E : Env) (s2 : AS) (x : AV),E 11 = .v (.int .i64 i)→E 10 = .v (.int .i64 N.length)→E 9 = .sl 1 N.length X (.own gt ge)→E 3 = x→RBuf 1 s s2 x (i + 1) ((N.take (i + 1)).map grpC)→s.le s2→K3 E s2:=by
     intro E s2 x k11 g10 g9 g3 hx hle
     refine hK3 _ _ ?_;clear hK3 K3
     refine wE fun K hK=>?_
     simp only [↓DN,Qa,Qb,Qc,Qd,Qe,Qf,Qg,Qh,reduceCtorEq,↓reduceIte,Na,Nb,Nc,Nk,Nf,Ng,Nh,Za,Zb,Zc,TT,k11,eye_succM i (by omega)]
     refine hK _ _ ?_;clear hK K
     refine ⟨⟨i + 1,x,hi',by simp only [upd,Nc,↓reduceIte],by simp only [upd,g10,Nc,↓reduceIte],by simp only [upd,g9,Nc,↓reduceIte],by simp only [upd,g3,Nc,↓reduceIte],hx,hle⟩,?_⟩
     simp only [g11,upd,↓reduceIte]
     omega
    clear hK3
    rcases hx with ⟨rfl,hi0,hL0⟩ | ⟨tk,ek,rfl,htk1,htk0⟩
    ·refine wE fun K hK=>?_
     simp only [↓DN,Qa,Qb,Qc,Qd,Qe,Qf,Qg,Qh,reduceCtorEq,↓reduceIte,Na,Nb,Nc,Nk,Nf,Ng,Nh,Za,Zb,Zc,TT,g3,nilS,List.replicate_succ,List.replicate_zero]
     intro tk htk1
     have hk0:=own_none_le hle htk1
     refine hK _ _ (hnx _ _ (.sl 1 1 [.sl 1 g.length (g.map byteV) .no] (.own tk 0)) (by simp only [upd,g11,Nc,↓reduceIte]) (by simp only [upd,g10,Nc,↓reduceIte]) (by simp only [upd,g9,Nc,↓reduceIte]) (by simp only [upd,Nc,↓reduceIte]) ?_ (AS.le_gain hle hk0 0))
     refine .inr ⟨tk,0,?_,by simp [AS.gain],hk0⟩
     rw [htk',hL0]
     subst hi0
     rfl
    ·refine wE fun K hK=>?_
     simp only [↓DN,Qa,Qb,Qc,Qd,Qe,Qf,Qg,Qh,reduceCtorEq,↓reduceIte,Na,Nb,Nc,Nk,Nf,Ng,Nh,Za,Zb,Zc,TT,g3,htk1,List.replicate_succ,List.replicate_zero]
     refine ⟨by omega,by omega,hK _ _ (hnx _ _ (.sl 1 (i + 1) ((N.take i).map grpC ++ [.sl 1 g.length (g.map byteV) .no]) (.own tk (ek + 1))) (by simp only [upd,g11,Nc,↓reduceIte]) (by simp only [upd,g10,Nc,↓reduceIte]) (by simp only [upd,g9,Nc,↓reduceIte]) (by simp only [upd,Nc,↓reduceIte]) ?_ (AS.le_gain hle htk0 (ek + 1)))⟩
     exact .inr ⟨tk,ek + 1,by rw [htk'],by simp [AS.gain],htk0⟩
   ·refine wS fun K hK=>?_
    simp only [↓DN,Qa,Qb,Qc,Qd,Qe,Qf,Qg,Qh,reduceCtorEq,↓reduceIte,Na,Nb,Nc,Nk,Nf,Ng,Nh,Za,Zb,Zc,TT,g11,g10,eye_lt_nat,decide_eq_false hi']
    refine hK _ _ ?_;clear hK K
    refine wK fun K2 hK2=>?_
    refine wC fun X Y hX hY=>?_
    simp only [UP,DF,Nc,↓reduceIte,DB]
    refine hY ?_;clear hX hY X Y
    refine awp_exit ?_
    simp only [thenQ,blockQ,if_true]
    refine hK _ _ ?_;clear hK hK2 K2 K
    obtain rfl : i = N.length:=by omega
    rw [List.take_length] at hx
    refine wS fun K hK=>?_
    simp only [↓DN,Qa,Qb,Qc,Qd,Qe,Qf,Qg,Qh,reduceCtorEq,↓reduceIte,Na,Nb,Nc,Nk,Nf,Ng,Nh,Za,Zb,Zc,TT,g3]
    refine hK _ _ ?_;clear hK K
    refine awp_ret ?_
    try simp only [thenQ,blockQ]
    simp only [retQ,AEnds,aresL,ares,List.toList_toArray,↓upd_same]; try simp only [UP,DF,Nc,↓reduceIte,DT]
    exact ⟨_,_,hx.weak.trans (AV.weak_slc (grps_weak N)),AS.le.refl _,rfl,hle⟩
end Go.Proofs.Ytcjifoccjlpapaa
namespace Go.Proofs.Ytcjifoccjlpapaa
open Go Go.AM Go.Proofs
variable {Γ : Nat→List AV}
theorem great12_calls (R : Rec) (s : AS) : ACalls Try.prog Γ 23 [.agg R.cells] s (fun r s'=>∃ n : Int,r = .v (.int .i64 n)∧s' = s):=by
 refine acalls_body Try.func23 rfl Try.ntmps23 Try.results23 (by simp) ?_
 unfold Rec.cells
 obtain ⟨k,g,e,t,u,y,tr,sc,wr⟩:=R
 refine awp_reg_frz 1 (by simp [dsts]) ?_
 intro K hK
 simp only [↓DM,pval,DX,Nz,↓DN,Qa,Qb,Qc,Qd,Qe,Qf,Qg,Qh,reduceCtorEq,↓reduceIte,Na,Nb,Nc,Nk,Nf,Ng,Nh,Za,Zb,Zc,TT]
 intro o ho
 refine hK _ _ o _ (by simp only [upd,Nc,↓reduceIte]) ho ?_
 clear hK K
 refine wS fun K hK=>?_
 simp only [↓DN,Qa,Qb,Qc,Qd,Qe,Qf,Qg,Qh,reduceCtorEq,↓reduceIte,Na,Nb,Nc,Nk,Nf,Ng,Nh,Za,Zb,Zc,TT]
 refine hK _ _ ?_;clear hK K
 refine awp_ret ?_
 simp only [retQ,AEnds,aresL,ares,List.toList_toArray,↓upd_same]; try simp only [UP,DF,Nc,↓reduceIte,DT]
 exact ⟨_,_,AV.weak.refl _,AS.le.refl _,_,rfl,rfl⟩
end Go.Proofs.Ytcjifoccjlpapaa
namespace Go.Proofs.Ytcjifoccjlpapaa
open Go Go.AM Go.Proofs
variable {Γ : Nat→List AV}
theorem ledAddErr_calls {s0 s : AS} {p : Nat} {L : LedV} {gs : List GEnt} {gt ge b1 b2 : Nat} (h : LedS s0 s p L gs gt ge b1 b2) (hi : L.inv) (r : Rec) (hv : checkV L r≠0) :
  ACalls Try.prog Γ 11 [.ptr p 0,.agg r.cells] s (fun v s'=>v = .v (.int .i64 (checkV L r))∧s' = s):=by
 refine acalls_body Try.func11 rfl Try.ntmps11 Try.results11 (by simp) ?_
 have hck:=ledCheck_calls (Γ:=Γ) h hi r
 generalize checkV L r = V at *
 obtain ⟨rk,rg,re,rt,rb,ry,rtr,rsc,rw'⟩:=r
 unfold Rec.cells at *
 simp only at *
 unfold bytesV at *
 refine awp_reg_frz 3 (by decide) ?_
 intro K hK
 simp only [↓DM,pval,DX,Nz,↓DN,Qa,Qb,Qc,Qd,Qe,Qf,Qg,Qh,reduceCtorEq,↓reduceIte,Na,Nb,Nc,Nk,Nf,Ng,Nh,Za,Zb,Zc,TT]
 intro o3 q3
 refine hK _ _ o3 _ (by simp only [upd,Nc,↓reduceIte]) q3 ?_
 clear hK K q3
 refine wK fun K hK=>?_
 refine wS fun K hK=>?_
 simp only [↓DN,Qa,Qb,Qc,Qd,Qe,Qf,Qg,Qh,reduceCtorEq,↓reduceIte,Na,Nb,Nc,Nk,Nf,Ng,Nh,Za,Zb,Zc,TT]
 refine acallk hck ?_
 rintro r s1 ⟨rfl,rfl⟩
 simp only [↓DM,pval,DX,Nz,↓DN,Qa,Qb,Qc,Qd,Qe,Qf,Qg,Qh,reduceCtorEq,↓reduceIte,Na,Nb,Nc,Nk,Nf,Ng,Nh,Za,Zb,Zc,TT]
 refine hK _ _ ?_;clear hK K
 refine wS fun K hK=>?_
 simp only [↓DN,Qa,Qb,Qc,Qd,Qe,Qf,Qg,Qh,reduceCtorEq,↓reduceIte,Na,Nb,Nc,Nk,Nf,Ng,Nh,Za,Zb,Zc,TT,int_bne_true hv]
 refine hK _ _ ?_;clear hK K
 refine wC fun X Y hX hY=>?_
 simp only [UP,DF,Nc,↓reduceIte,DB]
 refine hX ?_;clear hX hY X Y
 refine wS fun K hK=>?_
 simp only [↓DN,Qa,Qb,Qc,Qd,Qe,Qf,Qg,Qh,reduceCtorEq,↓reduceIte,Na,Nb,Nc,Nk,Nf,Ng,Nh,Za,Zb,Zc,TT]
 refine hK _ _ ?_;clear hK K
 refine awp_ret ?_
 try simp only [thenQ,blockQ]
 simp only [retQ,AEnds,aresL,ares,List.toList_toArray,↓upd_same]; try simp only [UP,DF,Nc,↓reduceIte,DT]
 exact ⟨_,_,AV.weak.refl _,AS.le.refl _,rfl,rfl⟩
def r28 : Rec:=⟨2,[103],0,0,0,[],List.replicate 32 0,List.replicate 32 0,List.replicate 48 0⟩
theorem r28_check : checkV LedV.new r28 = 41:=by decide +kernel
theorem new_inv : LedV.new.inv:=fun q hq=>by cases hq
theorem rep1 (x : AV) : List.replicate 1 x = [x]:=rfl
theorem awake28_calls (s : AS) : ACalls Try.prog Γ 6 [] s (fun r s'=>r = .v (.bool true)∧s' = s):=by
 refine tidyL (Q:=fun r=>r = .v (.bool true)) ?_
 refine acalls_body Try.func6 rfl Try.ntmps6 Try.results6 (by simp) ?_
 have hc : r28.cells = [.v (.int .i64 2),.sl 1 1 [.v (.int .u8 103)] .any,.v (.int .i64 0),.v (.int .i64 0),.v (.int .i64 0),.sl 1 0 [] .any,.sl 1 32 (List.replicate 32 (.v (.int .u8 0))) .any,.sl 1 32 (List.replicate 32 (.v (.int .u8 0))) .any,.sl 1 48 (List.replicate 48 (.v (.int .u8 0))) .any]:=by
  simp only [Rec.cells,r28,bytesV,List.length_replicate,List.map_replicate,List.length_cons,List.length_nil,List.map_cons,List.map_nil]
  rfl
 refine wS fun K hK=>?_
 simp only [↓DN,Qa,Qb,Qc,Qd,Qe,Qf,Qg,Qh,reduceCtorEq,↓reduceIte,Na,Nb,Nc,Nk,Nf,Ng,Nh,Za,Zb,Zc,TT]
 refine hK _ _ ?_;clear hK K
 refine wS fun K hK=>?_
 simp only [↓DN,Qa,Qb,Qc,Qd,Qe,Qf,Qg,Qh,reduceCtorEq,↓reduceIte,Na,Nb,Nc,Nk,Nf,Ng,Nh,Za,Zb,Zc,TT]
 refine acallk (ledNew_calls s) ?_
 rintro r s1 ⟨p,b1,b2,rfl,hL⟩
 have hadd:=ledAddErr_calls (Γ:=Γ) hL new_inv r28 (by rw [r28_check]; decide)
 rw [r28_check,hc] at hadd
 have hcnt:=ledCount_calls (Γ:=Γ) hL
 have e0 : LedV.new.count = 0:=rfl
 rw [e0] at hcnt
 have hle:=hL.le
 generalize hZ1 : List.replicate 32 (AV.v (.int .u8 0)) = Z1 at *
 generalize hZ2 : List.replicate 48 (AV.v (.int .u8 0)) = Z2 at *
 simp only [↓DM,pval,DX,Nz,↓DN,Qa,Qb,Qc,Qd,Qe,Qf,Qg,Qh,reduceCtorEq,↓reduceIte,Na,Nb,Nc,Nk,Nf,Ng,Nh,Za,Zb,Zc,TT]
 refine hK _ _ ?_;clear hK K
 refine awp_drf_seq T.mixed [10,15] [(6,32),(7,32),(8,48)] [] [] (by kernel_rfl) ?_
 intro K hK
 simp only [↓AXz_nil,↓AXz_cons,↓AGiv_call,glook_nil,glook_cons,glookN_nil,glookN_cons,noughtV,pval,DX,Nat.reduceBEq,List.toList_toArray,List.map_cons,List.map_nil,aeval,↓DN,Qa,Qb,Qc,Qd,Qe,Qf,Qg,Qh,reduceCtorEq,↓reduceIte,Na,Nb,Nc,Nk,Nf,Ng,Nh,Za,Zb,Zc,TT,gokB,rep1,hZ1,hZ2]
 refine acallk (ACalls.weaks (.cons (AV.weak.refl _) (.cons (AV.weak_agg (.cons (AV.weak.refl _) (.cons AV.weak_any (.cons (AV.weak.refl _) (.cons (AV.weak.refl _) (.cons (AV.weak.refl _) (.cons AV.weak_nil (.cons AV.weak_any (.cons AV.weak_any (.cons AV.weak_any .nil)))))))))) .nil)) hadd) ?_
 rintro r s2 ⟨rfl,rfl⟩
 simp only [↓AXq_nil,↓AXq_cons,pval,↓AXz_nil,↓AXz_cons,↓AGiv_call,glook_nil,glook_cons,glookN_nil,glookN_cons,noughtV,pval,DX,Nat.reduceBEq,List.toList_toArray,List.map_cons,List.map_nil,aeval,DX,Nat.reduceBEq,↓DN,Qa,Qb,Qc,Qd,Qe,Qf,Qg,Qh,reduceCtorEq,↓reduceIte,Na,Nb,Nc,Nk,Nf,Ng,Nh,Za,Zb,Zc,TT,gokB,show ((41 : Int) == 41) = true from rfl]
 refine acallk hcnt ?_
 rintro r s3 ⟨rfl,rfl⟩
 simp only [↓AXq_nil,↓AXq_cons,pval,↓AXz_nil,↓AXz_cons,↓AGiv_call,glook_nil,glook_cons,glookN_nil,glookN_cons,noughtV,pval,DX,Nat.reduceBEq,List.toList_toArray,List.map_cons,List.map_nil,aeval,DX,Nat.reduceBEq,↓DN,Qa,Qb,Qc,Qd,Qe,Qf,Qg,Qh,reduceCtorEq,↓reduceIte,Na,Nb,Nc,Nk,Nf,Ng,Nh,Za,Zb,Zc,TT,gokB,show ((0 : Int) == 0) = true from rfl]
 refine hK _ _ ?_;clear hK K
 refine awp_ret ?_
 try simp only [thenQ,blockQ]
 simp only [retQ,AEnds,aresL,ares,List.toList_toArray,↓upd_same]; try simp only [UP,DF,Nc,↓reduceIte,DT]
 exact ⟨_,_,AV.weak.refl _,AS.le.refl _,rfl,hle⟩
def recsV (l : List Rec) : AV:=.sl 9 l.length (rowC Rec.cells l) .any
theorem small28_calls (l : List Rec) (most : Int) (hm : 0≤most∧most≤2 ^ 40) (s : AS) :
  ACalls Try.prog Γ 7 [recsV l,.v (.int .i64 most)] s (fun r s'=>(∃ b,r = .v (.bool b)∧(b = true→(l.length : Int)≤most))∧s' = s):=by
 refine acalls_body Try.func7 rfl Try.ntmps7 Try.results7 (by simp) ?_
 have hrow:=fun i (h : i < l.length)=>row_at (c:=Rec.cells) (k:=9) (fun _=>rfl) h
 have hgr:=fun r s=>great12_calls (Γ:=Γ) r s
 unfold recsV
 generalize rowC Rec.cells l = X at *
 refine wS fun K hK=>?_
 simp only [↓DN,Qa,Qb,Qc,Qd,Qe,Qf,Qg,Qh,reduceCtorEq,↓reduceIte,Na,Nb,Nc,Nk,Nf,Ng,Nh,Za,Zb,Zc,TT]
 refine hK _ _ ?_;clear hK K
 refine wK fun K hK=>?_
 by_cases hl : most < (l.length : Int)
 ·refine wS fun K hK=>?_
  simp only [↓DN,Qa,Qb,Qc,Qd,Qe,Qf,Qg,Qh,reduceCtorEq,↓reduceIte,Na,Nb,Nc,Nk,Nf,Ng,Nh,Za,Zb,Zc,TT,decide_eq_true hl]
  refine hK _ _ ?_;clear hK K
  refine wC fun X Y hX hY=>?_
  simp only [UP,DF,Nc,↓reduceIte,DB]
  refine hX ?_;clear hX hY X Y
  refine wS fun K hK=>?_
  simp only [↓DN,Qa,Qb,Qc,Qd,Qe,Qf,Qg,Qh,reduceCtorEq,↓reduceIte,Na,Nb,Nc,Nk,Nf,Ng,Nh,Za,Zb,Zc,TT]
  refine hK _ _ ?_;clear hK K
  refine awp_ret ?_
  try simp only [thenQ,blockQ]
  simp only [retQ,AEnds,aresL,ares,List.toList_toArray,↓upd_same]; try simp only [UP,DF,Nc,↓reduceIte,DT]
  exact ⟨_,_,AV.weak.refl _,AS.le.refl _,⟨false,rfl,fun h=>by cases h⟩,rfl⟩
 ·refine wS fun K hK=>?_
  simp only [↓DN,Qa,Qb,Qc,Qd,Qe,Qf,Qg,Qh,reduceCtorEq,↓reduceIte,Na,Nb,Nc,Nk,Nf,Ng,Nh,Za,Zb,Zc,TT,decide_eq_false hl]
  refine hK _ _ ?_;clear hK K
  refine wC fun X Y hX hY=>?_
  simp only [UP,DF,Nc,↓reduceIte,DB]
  refine hY ?_;clear hX hY X Y
  refine awp_skip ?_
  refine hK _ _ ?_;clear hK K
  refine wK fun K hK=>?_
  refine wS fun K hK=>?_
  simp only [↓DN,Qa,Qb,Qc,Qd,Qe,Qf,Qg,Qh,reduceCtorEq,↓reduceIte,Na,Nb,Nc,Nk,Nf,Ng,Nh,Za,Zb,Zc,TT]
  refine hK _ _ ?_;clear hK K
  refine awp_block ?_
  refine awp_loop (fun E s'=>∃ i : Nat,i≤l.length∧E 5 = .v (.int .i64 i)∧E 0 = .sl 9 l.length X .any∧s' = s)
   (fun E _=>match E 5 with | .v (.int _ i)=>l.length - i.toNat | _=>0) ?_ ?_
  ·exact ⟨0,Nat.zero_le _,by simp only [upd,Nc,↓reduceIte]; rfl,by simp only [upd,initE,List.getD_cons_zero,List.getD_cons_succ,Nc,↓reduceIte],rfl⟩
  ·rintro E1 s1 ⟨i,hi,g5,g0,rfl⟩ -
   refine wK fun K2 hK2=>?_
   by_cases hi' : i < l.length
   ·refine wS fun K hK=>?_
    simp only [↓DN,Qa,Qb,Qc,Qd,Qe,Qf,Qg,Qh,reduceCtorEq,↓reduceIte,Na,Nb,Nc,Nk,Nf,Ng,Nh,Za,Zb,Zc,TT,g5,g0,eye_lt_nat,decide_eq_true hi']
    refine hK _ _ ?_;clear hK K
    refine wC fun X Y hX hY=>?_
    simp only [UP,DF,Nc,↓reduceIte,DB]
    refine hX ?_;clear hX hY X Y
    refine awp_skip ?_
    refine hK2 _ _ ?_;clear hK2 K2
    refine wK fun K3 hK3=>?_
    refine awp_block ?_
    have hge : (0 : Int)≤((i : Nat) : Int):=by omega
    have hat:=hrow i hi'
    have hg:=hgr l[i]
    generalize l[i] = r at *
    unfold Rec.cells bytesV at hat hg
    refine wS fun K hK=>?_
    simp only [↓DN,Qa,Qb,Qc,Qd,Qe,Qf,Qg,Qh,reduceCtorEq,↓reduceIte,Na,Nb,Nc,Nk,Nf,Ng,Nh,Za,Zb,Zc,TT,g5,g0,eye_lt_nat,hi',hge,hat]
    refine acallk (hg _) ?_
    rintro v s2 ⟨n,rfl,rfl⟩
    by_cases hn : 400 < n
    ·simp only [↓DM,pval,DX,Nz,↓DN,Qa,Qb,Qc,Qd,Qe,Qf,Qg,Qh,reduceCtorEq,↓reduceIte,Na,Nb,Nc,Nk,Nf,Ng,Nh,Za,Zb,Zc,TT,decide_eq_true hn]
     refine hK _ _ ?_;clear hK K
     refine wC fun X Y hX hY=>?_
     simp only [UP,DF,Nc,↓reduceIte,DB]
     refine hX ?_;clear hX hY X Y
     refine wS fun K hK=>?_
     simp only [↓DN,Qa,Qb,Qc,Qd,Qe,Qf,Qg,Qh,reduceCtorEq,↓reduceIte,Na,Nb,Nc,Nk,Nf,Ng,Nh,Za,Zb,Zc,TT]
     refine hK _ _ ?_;clear hK K
     refine awp_ret ?_
     try simp only [thenQ,blockQ]
     simp only [retQ,AEnds,aresL,ares,List.toList_toArray,↓upd_same]; try simp only [UP,DF,Nc,↓reduceIte,DT]
     exact ⟨_,_,AV.weak.refl _,AS.le.refl _,⟨false,rfl,fun h=>by cases h⟩,rfl⟩
    ·simp only [↓DM,pval,DX,Nz,↓DN,Qa,Qb,Qc,Qd,Qe,Qf,Qg,Qh,reduceCtorEq,↓reduceIte,Na,Nb,Nc,Nk,Nf,Ng,Nh,Za,Zb,Zc,TT,decide_eq_false hn]
     refine hK _ _ ?_;clear hK K
     refine wC fun X Y hX hY=>?_
     simp only [UP,DF,Nc,↓reduceIte,DB]
     refine hY ?_;clear hX hY X Y
     refine awp_skip ?_
     refine hK3 _ _ ?_;clear hK3 K3
     refine wE fun K hK=>?_
     simp only [↓DN,Qa,Qb,Qc,Qd,Qe,Qf,Qg,Qh,reduceCtorEq,↓reduceIte,Na,Nb,Nc,Nk,Nf,Ng,Nh,Za,Zb,Zc,TT,g5,eye_succM i (by omega)]
     refine hK _ _ ?_;clear hK K
     refine ⟨⟨i + 1,hi',by simp only [upd,Nc,↓reduceIte],by simp only [upd,g0,Nc,↓reduceIte],rfl⟩,?_⟩
     simp only [g5,upd,↓reduceIte]
     omega
   ·refine wS fun K hK=>?_
    simp only [↓DN,Qa,Qb,Qc,Qd,Qe,Qf,Qg,Qh,reduceCtorEq,↓reduceIte,Na,Nb,Nc,Nk,Nf,Ng,Nh,Za,Zb,Zc,TT,g5,g0,eye_lt_nat,decide_eq_false hi']
    refine hK _ _ ?_;clear hK K
    refine wC fun X Y hX hY=>?_
    simp only [UP,DF,Nc,↓reduceIte,DB]
    refine hY ?_;clear hX hY X Y
    refine awp_exit ?_
    simp only [thenQ,blockQ,if_true]
    refine hK _ _ ?_;clear hK hK2 K2 K
    refine wS fun K hK=>?_
    simp only [↓DN,Qa,Qb,Qc,Qd,Qe,Qf,Qg,Qh,reduceCtorEq,↓reduceIte,Na,Nb,Nc,Nk,Nf,Ng,Nh,Za,Zb,Zc,TT]
    refine hK _ _ ?_;clear hK K
    refine awp_ret ?_
    try simp only [thenQ,blockQ]
    simp only [retQ,AEnds,aresL,ares,List.toList_toArray,↓upd_same]; try simp only [UP,DF,Nc,↓reduceIte,DT]
    exact ⟨_,_,AV.weak.refl _,AS.le.refl _,⟨true,rfl,fun _=>by omega⟩,rfl⟩
end Go.Proofs.Ytcjifoccjlpapaa
namespace Go.AM
open Go
def nxE (a b : EntV) : Prop:=a.epoch < b.epoch∧a.place < b.place∧a.time≤b.time∧(b.kind = 2→b.epoch = a.epoch + 1)
def chainE (l : List EntV) : Prop:=∀ k,(h : k + 1 < l.length)→nxE l[k] l[k + 1]
def okE (L : LedV) (l : List EntV) : Prop:=l≠[]∧(∀ e,l.head? = some e→e.kind = 1)∧chainE l∧∀ e ∈ l,e.place < L.count∧e.time≤L.time∧0≤e.epoch∧e.epoch≤1048576
def totE : GrpV→Int
  | []=>0
  | (_,es) :: r=>(es.length : Int) + totE r
def LedV.rises (L : LedV) : Prop:=(L.gs.map (·.1)).Nodup∧(∀ q ∈ L.gs,okE L q.2)∧totE L.gs≤L.count∧0≤L.count
theorem new_rises : LedV.new.rises:=⟨by simp [LedV.new],(by intro q hq; cases hq),by decide,by decide⟩
theorem okE.more {L L' : LedV} {l : List EntV} (h : okE L l) (h1 : L.count≤L'.count) (h2 : L.time≤L'.time) : okE L' l:=by
  obtain ⟨a,b,c,d⟩:=h
  exact ⟨a,b,c,fun e he=>by obtain ⟨d1,d2,d3,d4⟩:=d e he; exact ⟨by omega,by omega,d3,d4⟩⟩
theorem totE_len : ∀ {l : GrpV} {q : List UInt8 × List EntV},q ∈ l→(q.2.length : Int)≤totE l
  | (k,es) :: l,q,h=>by
    have h0 : ∀ l : GrpV,0≤totE l:=by
      intro l
      induction l with
      | nil=>exact Int.le_refl _
      | cons x l ih=>obtain ⟨a,b⟩:=x; simp only [totE]; omega
    rcases List.mem_cons.1 h with rfl | h
    · simp only [totE]; have:=h0 l; omega
    · have:=totE_len h
      simp only [totE]; omega
theorem LedV.rises.inv {L : LedV} (h : L.rises) (hc : L.count≤2 ^ 40) : L.inv:=by
  intro q hq
  obtain ⟨a,_,_,d⟩:=h.2.1 q hq
  have:=totE_len hq
  have:=h.2.2.1
  exact ⟨a,by omega,fun e he=>(d e he).2.2⟩
theorem entsOf_none {g : List UInt8} : ∀ {l : GrpV},(∀ q ∈ l,q.2≠[])→entsOf g l = []→∀ q ∈ l,g≠q.1
  | [],_,_,q,hq=>by cases hq
  | (k,es) :: l,h,he,q,hq=>by
    by_cases e : g = k
    · simp only [entsOf,if_pos e] at he
      exact absurd he (h _ List.mem_cons_self)
    · simp only [entsOf,if_neg e] at he
      rcases List.mem_cons.1 hq with rfl | hq
      · exact e
      · exact entsOf_none (fun q hq=>h q (List.mem_cons_of_mem _ hq)) he q hq
theorem setE_spec {g : List UInt8} {v : List EntV} : ∀ {l : GrpV},entsOf g l≠[]→(setE g v l).map (·.1) = l.map (·.1)∧(∀ q ∈ setE g v l,q.2 = v∨q ∈ l)∧totE (setE g v l) = totE l - (entsOf g l).length + v.length
  | [],h=>absurd rfl h
  | (k,es) :: l,h=>by
    by_cases e : g = k
    · simp only [setE,entsOf,if_pos e,totE,List.map_cons] at h ⊢
      refine ⟨trivial,fun q hq=>?_,by omega⟩
      rcases List.mem_cons.1 hq with rfl | hq
      · exact .inl rfl
      · exact .inr (List.mem_cons_of_mem _ hq)
    · simp only [setE,entsOf,if_neg e,totE,List.map_cons] at h ⊢
      obtain ⟨a,b,c⟩:=setE_spec (v:=v) h
      refine ⟨by rw [a],fun q hq=>?_,by rw [c]; omega⟩
      rcases List.mem_cons.1 hq with rfl | hq
      · exact .inr List.mem_cons_self
      · rcases b q hq with x | x
        · exact .inl x
        · exact .inr (List.mem_cons_of_mem _ x)
theorem totE_app (a b : GrpV) : totE (a ++ b) = totE a + totE b:=by
  induction a with
  | nil=>simp [totE]
  | cons x a ih=>obtain ⟨k,es⟩:=x; simp only [List.cons_append,totE,ih]; omega
theorem chainE_snoc {l : List EntV} {e : EntV} (h : chainE l) (hl : l≠[]) (hn : nxE (lastE l) e) : chainE (l ++ [e]):=by
  intro k hk
  rw [List.length_append,List.length_singleton] at hk
  by_cases hk' : k + 1 < l.length
  · rw [List.getElem_append_left (by omega),List.getElem_append_left hk']
    exact h k hk'
  · have hkl : k = l.length - 1:=by omega
    have hpos:=List.length_pos_iff.2 hl
    rw [List.getElem_append_left (by omega),List.getElem_append_right (by omega)]
    have e1 : l[k]'(by omega) = lastE l:=by
      unfold lastE
      rw [List.getLastD_eq_getLast?,List.getLast?_eq_getElem?,List.getElem?_eq_getElem (by omega)]
      simp only [Option.getD_some,hkl]
    rw [e1]
    simpa using hn
theorem lastE_mem {l : List EntV} (h : l≠[]) : lastE l ∈ l:=by
  have hpos:=List.length_pos_iff.2 h
  unfold lastE
  rw [List.getLastD_eq_getLast?,List.getLast?_eq_getElem?,List.getElem?_eq_getElem (by omega)]
  exact List.getElem_mem _
theorem check_ok {L : LedV} {r : Rec} (h : checkV L r = 0) : r.right∧L.time≤r.time∧r.bucket ∉ L.shr∧(r.kind≠3→(r.kind = 2→entsOf r.group L.gs≠[]∧r.epoch = (lastE (entsOf r.group L.gs)).epoch + 1)∧(r.kind = 1→entsOf r.group L.gs≠[]→(lastE (entsOf r.group L.gs)).epoch < r.epoch)):=by
  unfold checkV at h
  by_cases h1 : ¬ r.right
  · rw [if_pos h1] at h; cases h
  · rw [if_neg h1] at h
    by_cases h2 : r.time < L.time
    · rw [if_pos h2] at h; cases h
    · rw [if_neg h2] at h
      by_cases h3 : r.kind = 3
      · rw [if_pos h3] at h
        by_cases h4 : r.bucket ∈ L.shr
        · rw [if_pos h4] at h; cases h
        · exact ⟨Classical.not_not.1 h1,by omega,h4,fun k=>absurd h3 k⟩
      · rw [if_neg h3] at h
        by_cases h4 : r.bucket ∈ L.shr
        · rw [if_pos h4] at h; cases h
        · rw [if_neg h4] at h
          by_cases h5 : r.kind = 2∧entsOf r.group L.gs = []
          · rw [if_pos h5] at h; cases h
          · rw [if_neg h5] at h
            by_cases h6 : (r.kind = 2∧r.epoch≠(lastE (entsOf r.group L.gs)).epoch + 1)∨(r.kind = 1∧entsOf r.group L.gs≠[]∧r.epoch≤(lastE (entsOf r.group L.gs)).epoch)
            · rw [if_pos h6] at h; cases h
            · refine ⟨Classical.not_not.1 h1,by omega,h4,fun _=>⟨fun k=>⟨fun e=>h5 ⟨k,e⟩,Classical.not_not.1 fun e=>h6 (.inl ⟨k,e⟩)⟩,fun k e=>?_⟩⟩
              have : ¬ r.epoch≤(lastE (entsOf r.group L.gs)).epoch:=fun q=>h6 (.inr ⟨k,e,q⟩)
              omega
theorem add_rises {L : LedV} (h : L.rises) (r : Rec) : (addV L r).rises:=by
  unfold addV
  by_cases hv : checkV L r≠0
  · rw [if_pos hv]; exact h
  · rw [if_neg hv]
    obtain ⟨c1,c2,c3,c4⟩:=check_ok (Classical.not_not.1 hv)
    have hf:=c1.facts
    obtain ⟨h1,h2,h3,h4⟩:=h
    by_cases k3 : r.kind = 3
    · rw [if_pos k3]
      exact ⟨h1,fun q hq=>(h2 q hq).more (by simp only; omega) c2,by simp only; omega,by simp only; omega⟩
    · rw [if_neg k3]
      obtain ⟨c5,c6⟩:=c4 k3
      have hne : ∀ q ∈ L.gs,q.2≠[]:=fun q hq=>(h2 q hq).1
      have hent : ∀ L' : LedV,L'.count = L.count + 1→L'.time = r.time→okE L' (entsOf r.group L.gs ++ [entOf L r]):=by
        intro L' e1 e2
        have hnew : (entOf L r).place < L'.count∧(entOf L r).time≤L'.time∧0≤(entOf L r).epoch∧(entOf L r).epoch≤1048576:=by
          unfold entOf
          simp only
          exact ⟨by omega,by omega,by omega,by omega⟩
        rcases entsOf_mem (g:=r.group) (l:=L.gs) with a | ⟨q,a,_,b⟩
        · rw [a]
          refine ⟨by simp,fun e he=>?_,fun k hk=>absurd hk (by simp),fun e he=>?_⟩
          · simp only [List.nil_append,List.head?_cons,Option.some.injEq] at he
            subst he
            have : r.kind≠2:=fun k=>(c5 k).1 a
            unfold entOf
            simp only
            omega
          · simp only [List.nil_append,List.mem_singleton] at he
            subst he
            exact hnew
        · obtain ⟨d1,d2,d3,d4⟩:=h2 q a
          rw [b] at d1 d2 d3 d4
          have hl:=d4 _ (lastE_mem d1)
          refine ⟨by simp,fun e he=>?_,chainE_snoc d3 d1 ?_,fun e he=>?_⟩
          · obtain ⟨y,tl,hy⟩:=List.exists_cons_of_ne_nil d1
            rw [hy] at he d2
            simp only [List.cons_append,List.head?_cons,Option.some.injEq] at he
            exact d2 e (by rw [List.head?_cons,he])
          · unfold nxE entOf
            simp only
            refine ⟨?_,by omega,by omega,fun k=>(c5 k).2⟩
            have hk : r.kind = 1∨r.kind = 2:=by omega
            rcases hk with k | k
            · exact c6 k d1
            · have:=(c5 k).2; omega
          · rw [List.mem_append,List.mem_singleton] at he
            rcases he with he | rfl
            · obtain ⟨x1,x2,x3,x4⟩:=d4 e he
              exact ⟨by omega,by omega,x3,x4⟩
            · exact hnew
      by_cases he : entsOf r.group L.gs = []
      · have hnin:=entsOf_none hne he
        rw [setE_new hnin]
        refine ⟨?_,fun q hq=>?_,?_,by simp only; omega⟩
        · simp only [List.map_append,List.map_cons,List.map_nil]
          rw [List.nodup_append]
          refine ⟨h1,by simp,?_⟩
          intro a ha b hb e
          simp only [List.mem_singleton] at hb
          obtain ⟨q,hq,rfl⟩:=List.mem_map.1 ha
          exact hnin q hq (by rw [e,hb])
        · rcases List.mem_append.1 hq with hq | hq
          · exact (h2 q hq).more (by simp only; omega) c2
          · rw [List.mem_singleton] at hq
            subst hq
            exact hent _ rfl rfl
        · simp only
          rw [totE_app,he]
          simp only [totE,List.nil_append,List.length_singleton]
          omega
      · obtain ⟨s1,s2,s3⟩:=setE_spec (v:=entsOf r.group L.gs ++ [entOf L r]) he
        refine ⟨by rw [s1]; exact h1,fun q hq=>?_,?_,by simp only; omega⟩
        · rcases s2 q hq with x | x
          · rw [x]; exact hent _ rfl rfl
          · exact (h2 q x).more (by simp only; omega) c2
        · simp only
          rw [s3,List.length_append,List.length_singleton]
          omega
theorem add_shr {L : LedV} {r : Rec} (h : checkV L r = 0) : (r.bucket ∈ (addV L r).shr↔r.kind = 3)∧(addV L r).count = L.count + 1:=by
  have h3:=(check_ok h).2.2.1
  unfold addV
  rw [if_neg (fun q=>q h)]
  by_cases k : r.kind = 3
  · rw [if_pos k]; simp [k]
  · rw [if_neg k]; simp [k,h3]
theorem add_err {L : LedV} {r : Rec} (h : checkV L r≠0) : addV L r = L:=if_pos h
theorem entsOf_at : ∀ {l : GrpV} {i : Nat} (h : i < l.length),(l.map (·.1)).Nodup→entsOf l[i].1 l = l[i].2
  | (k,es) :: l,0,_,_=>by simp [entsOf]
  | (k,es) :: l,i + 1,h,hn=>by
    simp only [List.map_cons,List.nodup_cons] at hn
    have hi : i < l.length:=by simpa using h
    have e : l[i].1≠k:=fun e=>hn.1 (by rw [← e]; exact List.mem_map_of_mem (List.getElem_mem hi))
    simp only [List.getElem_cons_succ,entsOf,if_neg e]
    exact entsOf_at hi hn.2
theorem totE_take {l : GrpV} {i : Nat} (h : i < l.length) : totE (l.take (i + 1)) = totE (l.take i) + l[i].2.length:=by
  rw [List.take_succ_eq_append_getElem h,totE_app]
  obtain ⟨a,b⟩:=l[i]
  simp [totE]
end Go.AM
