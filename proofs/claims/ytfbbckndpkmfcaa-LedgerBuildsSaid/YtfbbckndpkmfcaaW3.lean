/- Contracts of the program's functions, each walked once; the conditions stand in each theorem. -/
import Derived.Test.YtfbbckndpkmfcaaAMp6
import Derived.Test.YtfbbckndpkmfcaaW1
import Derived.Test.YtfbbckndpkmfcaaW2
import Derived.Test.YtfbbckndpkmfcaaAMp7
import Derived.Shelf.Spec.SlicesInsertGrow
import Derived.Test.YtfbbckndpkmfcaaAMp4
import Derived.Shelf.Slices.SearchI
import Derived.Shelf.Slices.Empties
import Derived.Sort.EveryDepth
import Derived.Shelf.Sort.AssemblyIn
import Derived.Lib.RowBridge
set_option linter.unusedSimpArgs false
set_option linter.unusedVariables false
open Nat renaming reduceLT → Na, reduceLeDiff → Nb, reduceEqDiff → Nc, reduceAdd → Nk, reduceMul → Nf, reducePow → Ng, reduceSub → Nh, reduceBEq → Nz
open Int renaming reduceLT → Za, reduceLE → Zb, reduceToNat → Zc
open Go.AM renaming ashift → Qa, aconv → Qb, aindexAddr → Qc, aindex → Qd, aslice → Qe, abuiltin → Qf, awp_reg_seq → wS, awp_reg_end → wE, awp_seq_k → wK, awp_cond_k → wC
open Go.AM.AV renaming cells → Qg, one → Qh
set_option maxRecDepth 100000
set_option maxHeartbeats 8000000
set_option autoImplicit false
namespace Go.Proofs.Ytfbbckndpkmfcaa
open Go Go.AM Go.Proofs
variable {Γ : Nat→List AV}
theorem ledCheck_calls {s0 s : AS} {p : Nat} {L : LedV} {gs : List GEnt} {gt ge b1 b2 : Nat} (h : LedS s0 s p L gs gt ge b1 b2) (hi : L.inv) (r : Rec) :
  ACalls Try.prog Γ 8 [.ptr p 0,.agg r.cells] s (fun v s'=>v = .v (.int .i64 (checkV L r))∧s' = s):=by
 refine ACalls.forget (R:=fun v s'=>v = .v (.int .i64 (checkV L r))∧s' = s) (Q:=fun v s'=>v = .v (.int .i64 (checkV L r))∧s.le s') ?_ fun v s' ⟨h1,h2⟩=>⟨s,h2,h1,rfl⟩
 refine acalls_body Try.func8 rfl Try.ntmps8 Try.results8 (by simp) ?_
 have ho:=h.obj
 have hm1:=h.m1
 have hm2:=h.m2
 have hla:=ledLast_calls (Γ:=Γ) h (hi.gs h.val) r.group
 have hri:=fun s=>recRight_calls (Γ:=Γ) r s
 have hep:=hi.last r.group
 have hf:=find_shr r.bucket L.shr
 have hz : azero Try.prog 4 = some (.bool false):=by kernel_rfl
 have hk : keyPlain (.int .i64) (.int .i64 r.bucket) = true:=rfl
 obtain ⟨V,hV⟩ : ∃ V,V = checkV L r:=⟨_,rfl⟩
 rw [← hV]
 unfold checkV at hV
 generalize lastE (entsOf r.group L.gs) = le at *
 obtain ⟨b6,hb6⟩ : ∃ b,b = decide (entsOf r.group L.gs≠[]):=⟨_,rfl⟩
 rw [← hb6] at hla
 have hem : (entsOf r.group L.gs = []) = (b6 = false):=by rw [hb6]; simp
 have hne : (entsOf r.group L.gs≠[]) = (b6 = true):=by rw [hb6]; simp
 simp only [hem,hne] at hV
 have hob : ∀ {o : Nat} (cs : List AV),s.objs o = none→p≠o:=fun _ hn e=>by rw [← e,ho] at hn; cases hn
 unfold ledC at ho
 have e41 : iadd .i64 le.epoch 1 = le.epoch + 1:=iadd_i64 (by omega)
 obtain ⟨rk,rg,re,rt,rb,ry,rtr,rsc,rw'⟩:=r
 obtain ⟨l1,l2,l3,l4,l5⟩:=le
 unfold Rec.cells EntV.cells at *
 simp only at *
 unfold bytesV at *
 obtain ⟨VR,hVR⟩ : ∃ VR,VR = AV.rop [.v (.int .i64 rk),.sl 1 rg.length (rg.map byteV) .any,.v (.int .i64 re),.v (.int .i64 rt),.v (.int .i64 rb),.sl 1 ry.length (ry.map byteV) .any,.sl 1 rtr.length (rtr.map byteV) .any,.sl 1 rsc.length (rsc.map byteV) .any,.sl 1 rw'.length (rw'.map byteV) .any]:=⟨_,rfl⟩
 refine awp_reg_frz 3 (by decide) ?_
 intro K hK
 simp only [↓DM,pval,DX,Nz,↓DN,Qa,Qb,Qc,Qd,Qe,Qf,Qg,Qh,reduceCtorEq,↓reduceIte,Na,Nb,Nc,Nk,Nf,Ng,Nh,Za,Zb,Zc,TT]
 intro o3 q3
 refine hK _ _ o3 _ (by simp only [upd,Nc,↓reduceIte]) q3 ?_
 clear hK K q3
 refine wS fun K hK=>?_
 simp only [↓DN,Qa,Qb,Qc,Qd,Qe,Qf,Qg,Qh,reduceCtorEq,↓reduceIte,Na,Nb,Nc,Nk,Nf,Ng,Nh,Za,Zb,Zc,TT]
 refine acallk hla ?_
 rintro r s1 ⟨rfl,rfl⟩
 simp only [↓DM,pval,DX,Nz,↓DN,Qa,Qb,Qc,Qd,Qe,Qf,Qg,Qh,reduceCtorEq,↓reduceIte,Na,Nb,Nc,Nk,Nf,Ng,Nh,Za,Zb,Zc,TT]
 intro o5 q5
 refine hK _ _ ?_;clear hK K
 have hp5:=hob [] q5
 have ho':=(AS.set_objs_ne s1 hp5 [.v (.int .i64 l1),.v (.int .i64 l2),.v (.int .i64 l3),.v (.int .i64 l4),.v (.int .i64 l5)]).trans ho
 have hm2' : (s1.set o5 [.v (.int .i64 l1),.v (.int .i64 l2),.v (.int .i64 l3),.v (.int .i64 l4),.v (.int .i64 l5)]).maps b2 = some (.map (L.shr.map shrKV)):=hm2
 have hl5:=AS.set_objs_same s1 o5 [.v (.int .i64 l1),.v (.int .i64 l2),.v (.int .i64 l3),.v (.int .i64 l4),.v (.int .i64 l5)]
 have hle : s1.le (s1.set o5 [.v (.int .i64 l1),.v (.int .i64 l2),.v (.int .i64 l3),.v (.int .i64 l4),.v (.int .i64 l5)]):=AS.le_set (AS.le.refl _) q5 _
 generalize s1.set o5 [.v (.int .i64 l1),.v (.int .i64 l2),.v (.int .i64 l3),.v (.int .i64 l4),.v (.int .i64 l5)] = s2 at ho' hm2' hl5 hle ⊢
 refine wK fun K hK=>?_
 refine awp_block ?_
 refine wS fun K hK=>?_
 simp only [↓DN,Qa,Qb,Qc,Qd,Qe,Qf,Qg,Qh,reduceCtorEq,↓reduceIte,Na,Nb,Nc,Nk,Nf,Ng,Nh,Za,Zb,Zc,TT]
 refine acallk (hri _) ?_
 rintro r s3 ⟨rfl,rfl⟩
 by_cases hr : (⟨rk,rg,re,rt,rb,ry,rtr,rsc,rw'⟩ : Rec).right
 ·rw [if_neg (fun k=>k hr)] at hV
  rw [decide_eq_true hr]
  simp only [↓DM,pval,DX,Nz,↓DN,Qa,Qb,Qc,Qd,Qe,Qf,Qg,Qh,reduceCtorEq,↓reduceIte,Na,Nb,Nc,Nk,Nf,Ng,Nh,Za,Zb,Zc,TT]
  refine hK _ _ ?_;clear hK K
  refine wC fun X Y hX hY=>?_
  simp only [UP,DF,Nc,↓reduceIte,DB]
  refine hY ?_;clear hX hY X Y
  by_cases ht : rt < L.time
  ·rw [if_pos ht] at hV
   refine awp_drw_seq T.mixed [5] (by kernel_rfl) ?_
   intro K hK
   simp only [↓DM,pval,DX,Nz,↓DN,Qa,Qb,Qc,Qd,Qe,Qf,Qg,Qh,reduceCtorEq,↓reduceIte,Na,Nb,Nc,Nk,Nf,Ng,Nh,Za,Zb,Zc,TT,ho',decide_eq_true ht]
   refine hK _ _ ?_;clear hK K
   refine wC fun X Y hX hY=>?_
   simp only [UP,DF,Nc,↓reduceIte,DB]
   refine hX ?_;clear hX hY X Y
   refine wS fun K hK=>?_
   simp only [↓DN,Qa,Qb,Qc,Qd,Qe,Qf,Qg,Qh,reduceCtorEq,↓reduceIte,Na,Nb,Nc,Nk,Nf,Ng,Nh,Za,Zb,Zc,TT]
   refine hK _ _ ?_;clear hK K
   refine awp_ret ?_
   try simp only [thenQ,blockQ]
   simp only [retQ,AEnds,aresL,ares,List.toList_toArray,↓upd_same]; try simp only [UP,DF,Nc,↓reduceIte,DT]
   exact ⟨_,_,AV.weak.refl _,AS.le.refl _,by rw [hV],hle⟩
  ·rw [if_neg ht] at hV
   refine awp_drw_seq T.mixed [5] (by kernel_rfl) ?_
   intro K hK
   simp only [↓DM,pval,DX,Nz,↓DN,Qa,Qb,Qc,Qd,Qe,Qf,Qg,Qh,reduceCtorEq,↓reduceIte,Na,Nb,Nc,Nk,Nf,Ng,Nh,Za,Zb,Zc,TT,ho',decide_eq_false ht]
   refine hK _ _ ?_;clear hK K
   refine wC fun X Y hX hY=>?_
   simp only [UP,DF,Nc,↓reduceIte,DB]
   refine hY ?_;clear hX hY X Y
   by_cases h3 : rk = 3
   ·rw [if_pos h3] at hV
    refine wS fun K hK=>?_
    simp only [↓DN,Qa,Qb,Qc,Qd,Qe,Qf,Qg,Qh,reduceCtorEq,↓reduceIte,Na,Nb,Nc,Nk,Nf,Ng,Nh,Za,Zb,Zc,TT,int_eq_yes h3]
    refine hK _ _ ?_;clear hK K
    refine wC fun X Y hX hY=>?_
    simp only [UP,DF,Nc,↓reduceIte,DB]
    refine hX ?_;clear hX hY X Y
    refine wK fun K2 hK2=>?_
    by_cases hs : rb ∈ L.shr
    ·rw [if_pos hs] at hV hf
     refine awp_drw_seq T.mixed [3,6] (by kernel_rfl) ?_
     intro K hK
     simp only [↓DM,pval,DX,Nz,↓DN,Qa,Qb,Qc,Qd,Qe,Qf,Qg,Qh,reduceCtorEq,↓reduceIte,Na,Nb,Nc,Nk,Nf,Ng,Nh,Za,Zb,Zc,TT,ho',amOf,avOf,hm2',Try.underlying50,Try.underlying3,hz,hk,hf]
     refine hK _ _ ?_;clear hK K
     refine wC fun X Y hX hY=>?_
     simp only [UP,DF,Nc,↓reduceIte,DB]
     refine hX ?_;clear hX hY X Y
     refine wS fun K hK=>?_
     simp only [↓DN,Qa,Qb,Qc,Qd,Qe,Qf,Qg,Qh,reduceCtorEq,↓reduceIte,Na,Nb,Nc,Nk,Nf,Ng,Nh,Za,Zb,Zc,TT]
     refine hK _ _ ?_;clear hK K
     refine awp_ret ?_
     try simp only [thenQ,blockQ]
     simp only [retQ,AEnds,aresL,ares,List.toList_toArray,↓upd_same]; try simp only [UP,DF,Nc,↓reduceIte,DT]
     exact ⟨_,_,AV.weak.refl _,AS.le.refl _,by rw [hV],hle⟩
    ·rw [if_neg hs] at hV hf
     refine awp_drw_seq T.mixed [3,6] (by kernel_rfl) ?_
     intro K hK
     simp only [↓DM,pval,DX,Nz,↓DN,Qa,Qb,Qc,Qd,Qe,Qf,Qg,Qh,reduceCtorEq,↓reduceIte,Na,Nb,Nc,Nk,Nf,Ng,Nh,Za,Zb,Zc,TT,ho',amOf,avOf,hm2',Try.underlying50,Try.underlying3,hz,hk,hf]
     refine hK _ _ ?_;clear hK K
     refine wC fun X Y hX hY=>?_
     simp only [UP,DF,Nc,↓reduceIte,DB]
     refine hY ?_;clear hX hY X Y
     refine awp_skip ?_
     refine hK2 _ _ ?_;clear hK2 K2
     refine wS fun K hK=>?_
     simp only [↓DN,Qa,Qb,Qc,Qd,Qe,Qf,Qg,Qh,reduceCtorEq,↓reduceIte,Na,Nb,Nc,Nk,Nf,Ng,Nh,Za,Zb,Zc,TT]
     refine hK _ _ ?_;clear hK K
     refine awp_ret ?_
     try simp only [thenQ,blockQ]
     simp only [retQ,AEnds,aresL,ares,List.toList_toArray,↓upd_same]; try simp only [UP,DF,Nc,↓reduceIte,DT]
     exact ⟨_,_,AV.weak.refl _,AS.le.refl _,by rw [hV],hle⟩
   ·rw [if_neg h3] at hV
    refine wS fun K hK=>?_
    simp only [↓DN,Qa,Qb,Qc,Qd,Qe,Qf,Qg,Qh,reduceCtorEq,↓reduceIte,Na,Nb,Nc,Nk,Nf,Ng,Nh,Za,Zb,Zc,TT,int_eq_no h3]
    refine hK _ _ ?_;clear hK K
    refine wC fun X Y hX hY=>?_
    simp only [UP,DF,Nc,↓reduceIte,DB]
    refine hY ?_;clear hX hY X Y
    by_cases hs : rb ∈ L.shr
    ·rw [if_pos hs] at hV hf
     refine awp_drw_seq T.mixed [3,6] (by kernel_rfl) ?_
     intro K hK
     simp only [↓DM,pval,DX,Nz,↓DN,Qa,Qb,Qc,Qd,Qe,Qf,Qg,Qh,reduceCtorEq,↓reduceIte,Na,Nb,Nc,Nk,Nf,Ng,Nh,Za,Zb,Zc,TT,ho',amOf,avOf,hm2',Try.underlying50,Try.underlying3,hz,hk,hf]
     refine hK _ _ ?_;clear hK K
     refine wC fun X Y hX hY=>?_
     simp only [UP,DF,Nc,↓reduceIte,DB]
     refine hX ?_;clear hX hY X Y
     refine wS fun K hK=>?_
     simp only [↓DN,Qa,Qb,Qc,Qd,Qe,Qf,Qg,Qh,reduceCtorEq,↓reduceIte,Na,Nb,Nc,Nk,Nf,Ng,Nh,Za,Zb,Zc,TT]
     refine hK _ _ ?_;clear hK K
     refine awp_ret ?_
     try simp only [thenQ,blockQ]
     simp only [retQ,AEnds,aresL,ares,List.toList_toArray,↓upd_same]; try simp only [UP,DF,Nc,↓reduceIte,DT]
     exact ⟨_,_,AV.weak.refl _,AS.le.refl _,by rw [hV],hle⟩
    ·rw [if_neg hs] at hV hf
     refine awp_drw_seq T.mixed [3,6] (by kernel_rfl) ?_
     intro K hK
     simp only [↓DM,pval,DX,Nz,↓DN,Qa,Qb,Qc,Qd,Qe,Qf,Qg,Qh,reduceCtorEq,↓reduceIte,Na,Nb,Nc,Nk,Nf,Ng,Nh,Za,Zb,Zc,TT,ho',amOf,avOf,hm2',Try.underlying50,Try.underlying3,hz,hk,hf]
     refine hK _ _ ?_;clear hK K
     refine wC fun X Y hX hY=>?_
     simp only [UP,DF,Nc,↓reduceIte,DB]
     refine hY ?_;clear hX hY X Y
     cases b6 with
     | false =>
      by_cases h2 : rk = 2
      ·rw [if_pos ⟨h2,rfl⟩] at hV
       refine wS fun K hK=>?_
       simp only [↓DN,Qa,Qb,Qc,Qd,Qe,Qf,Qg,Qh,reduceCtorEq,↓reduceIte,Na,Nb,Nc,Nk,Nf,Ng,Nh,Za,Zb,Zc,TT,int_eq_yes h2]
       refine hK _ _ ?_;clear hK K
       refine wC fun X Y hX hY=>?_
       simp only [UP,DF,Nc,↓reduceIte,DB]
       refine hX ?_;clear hX hY X Y
       refine wS fun K hK=>?_
       simp only [↓DN,Qa,Qb,Qc,Qd,Qe,Qf,Qg,Qh,reduceCtorEq,↓reduceIte,Na,Nb,Nc,Nk,Nf,Ng,Nh,Za,Zb,Zc,TT]
       refine hK _ _ ?_;clear hK K
       refine awp_ret ?_
       try simp only [thenQ,blockQ]
       simp only [retQ,AEnds,aresL,ares,List.toList_toArray,↓upd_same]; try simp only [UP,DF,Nc,↓reduceIte,DT]
       exact ⟨_,_,AV.weak.refl _,AS.le.refl _,by rw [hV],hle⟩
      ·rw [if_neg (fun k=>h2 k.1),if_neg (by rintro (k | k); exact h2 k.1; exact absurd k.2.1 (by decide))] at hV
       refine wS fun K hK=>?_
       simp only [↓DN,Qa,Qb,Qc,Qd,Qe,Qf,Qg,Qh,reduceCtorEq,↓reduceIte,Na,Nb,Nc,Nk,Nf,Ng,Nh,Za,Zb,Zc,TT,int_eq_no h2]
       refine hK _ _ ?_;clear hK K
       refine wC fun X Y hX hY=>?_
       simp only [UP,DF,Nc,↓reduceIte,DB]
       refine hY ?_;clear hX hY X Y
       refine wK fun K2 hK2=>?_
       refine wS fun K hK=>?_
       simp only [↓DN,Qa,Qb,Qc,Qd,Qe,Qf,Qg,Qh,reduceCtorEq,↓reduceIte,Na,Nb,Nc,Nk,Nf,Ng,Nh,Za,Zb,Zc,TT,int_eq_no h2]
       refine hK _ _ ?_;clear hK K
       refine wC fun X Y hX hY=>?_
       simp only [UP,DF,Nc,↓reduceIte,DB]
       refine hY ?_;clear hX hY X Y
       by_cases h1 : rk = 1
       ·refine wE fun K hK=>?_
        simp only [↓DN,Qa,Qb,Qc,Qd,Qe,Qf,Qg,Qh,reduceCtorEq,↓reduceIte,Na,Nb,Nc,Nk,Nf,Ng,Nh,Za,Zb,Zc,TT,int_eq_yes h1]
        refine hK _ _ ?_;clear hK K
        refine hK2 _ _ ?_;clear hK2 K2
        refine wC fun X Y hX hY=>?_
        simp only [UP,DF,Nc,↓reduceIte,DB]
        refine hY ?_;clear hX hY X Y
        refine awp_skip ?_
        refine hK _ _ ?_;clear hK K
        refine wS fun K hK=>?_
        simp only [↓DN,Qa,Qb,Qc,Qd,Qe,Qf,Qg,Qh,reduceCtorEq,↓reduceIte,Na,Nb,Nc,Nk,Nf,Ng,Nh,Za,Zb,Zc,TT]
        refine hK _ _ ?_;clear hK K
        refine awp_ret ?_
        try simp only [thenQ,blockQ]
        simp only [retQ,AEnds,aresL,ares,List.toList_toArray,↓upd_same]; try simp only [UP,DF,Nc,↓reduceIte,DT]
        exact ⟨_,_,AV.weak.refl _,AS.le.refl _,by rw [hV],hle⟩
       ·refine wE fun K hK=>?_
        simp only [↓DN,Qa,Qb,Qc,Qd,Qe,Qf,Qg,Qh,reduceCtorEq,↓reduceIte,Na,Nb,Nc,Nk,Nf,Ng,Nh,Za,Zb,Zc,TT,int_eq_no h1]
        refine hK _ _ ?_;clear hK K
        refine hK2 _ _ ?_;clear hK2 K2
        refine wC fun X Y hX hY=>?_
        simp only [UP,DF,Nc,↓reduceIte,DB]
        refine hY ?_;clear hX hY X Y
        refine awp_skip ?_
        refine hK _ _ ?_;clear hK K
        refine wS fun K hK=>?_
        simp only [↓DN,Qa,Qb,Qc,Qd,Qe,Qf,Qg,Qh,reduceCtorEq,↓reduceIte,Na,Nb,Nc,Nk,Nf,Ng,Nh,Za,Zb,Zc,TT]
        refine hK _ _ ?_;clear hK K
        refine awp_ret ?_
        try simp only [thenQ,blockQ]
        simp only [retQ,AEnds,aresL,ares,List.toList_toArray,↓upd_same]; try simp only [UP,DF,Nc,↓reduceIte,DT]
        exact ⟨_,_,AV.weak.refl _,AS.le.refl _,by rw [hV],hle⟩
     | true =>
      rw [if_neg (fun k=>absurd k.2 (by decide))] at hV
      by_cases h2 : rk = 2
      ·refine wS fun K hK=>?_
       simp only [↓DN,Qa,Qb,Qc,Qd,Qe,Qf,Qg,Qh,reduceCtorEq,↓reduceIte,Na,Nb,Nc,Nk,Nf,Ng,Nh,Za,Zb,Zc,TT,int_eq_yes h2]
       refine hK _ _ ?_;clear hK K
       refine wC fun X Y hX hY=>?_
       simp only [UP,DF,Nc,↓reduceIte,DB]
       refine hY ?_;clear hX hY X Y
       refine wK fun K2 hK2=>?_
       by_cases he : re = l3 + 1
       ·rw [if_neg (by rintro (k | k); exact k.2 he; omega)] at hV
        refine wS fun K hK=>?_
        simp only [↓DN,Qa,Qb,Qc,Qd,Qe,Qf,Qg,Qh,reduceCtorEq,↓reduceIte,Na,Nb,Nc,Nk,Nf,Ng,Nh,Za,Zb,Zc,TT,int_eq_yes h2,hl5,e41,int_bne_false he]
        refine hK _ _ ?_;clear hK K
        refine wC fun X Y hX hY=>?_
        simp only [UP,DF,Nc,↓reduceIte,DB]
        refine hY ?_;clear hX hY X Y
        have h1 : rk≠1:=by omega
        refine wE fun K hK=>?_
        simp only [↓DN,Qa,Qb,Qc,Qd,Qe,Qf,Qg,Qh,reduceCtorEq,↓reduceIte,Na,Nb,Nc,Nk,Nf,Ng,Nh,Za,Zb,Zc,TT,int_eq_no h1]
        refine hK _ _ ?_;clear hK K
        refine hK2 _ _ ?_;clear hK2 K2
        refine wC fun X Y hX hY=>?_
        simp only [UP,DF,Nc,↓reduceIte,DB]
        refine hY ?_;clear hX hY X Y
        refine awp_skip ?_
        refine hK _ _ ?_;clear hK K
        refine wS fun K hK=>?_
        simp only [↓DN,Qa,Qb,Qc,Qd,Qe,Qf,Qg,Qh,reduceCtorEq,↓reduceIte,Na,Nb,Nc,Nk,Nf,Ng,Nh,Za,Zb,Zc,TT]
        refine hK _ _ ?_;clear hK K
        refine awp_ret ?_
        try simp only [thenQ,blockQ]
        simp only [retQ,AEnds,aresL,ares,List.toList_toArray,↓upd_same]; try simp only [UP,DF,Nc,↓reduceIte,DT]
        exact ⟨_,_,AV.weak.refl _,AS.le.refl _,by rw [hV],hle⟩
       ·rw [if_pos (.inl ⟨h2,he⟩)] at hV
        refine wS fun K hK=>?_
        simp only [↓DN,Qa,Qb,Qc,Qd,Qe,Qf,Qg,Qh,reduceCtorEq,↓reduceIte,Na,Nb,Nc,Nk,Nf,Ng,Nh,Za,Zb,Zc,TT,int_eq_yes h2,hl5,e41,int_bne_true he]
        refine hK _ _ ?_;clear hK K
        refine wC fun X Y hX hY=>?_
        simp only [UP,DF,Nc,↓reduceIte,DB]
        refine hX ?_;clear hX hY X Y
        refine awp_skip ?_
        refine hK2 _ _ ?_;clear hK2 K2
        refine wC fun X Y hX hY=>?_
        simp only [UP,DF,Nc,↓reduceIte,DB]
        refine hX ?_;clear hX hY X Y
        refine wS fun K hK=>?_
        simp only [↓DN,Qa,Qb,Qc,Qd,Qe,Qf,Qg,Qh,reduceCtorEq,↓reduceIte,Na,Nb,Nc,Nk,Nf,Ng,Nh,Za,Zb,Zc,TT]
        refine hK _ _ ?_;clear hK K
        refine awp_ret ?_
        try simp only [thenQ,blockQ]
        simp only [retQ,AEnds,aresL,ares,List.toList_toArray,↓upd_same]; try simp only [UP,DF,Nc,↓reduceIte,DT]
        exact ⟨_,_,AV.weak.refl _,AS.le.refl _,by rw [hV],hle⟩
      ·refine wS fun K hK=>?_
       simp only [↓DN,Qa,Qb,Qc,Qd,Qe,Qf,Qg,Qh,reduceCtorEq,↓reduceIte,Na,Nb,Nc,Nk,Nf,Ng,Nh,Za,Zb,Zc,TT,int_eq_no h2]
       refine hK _ _ ?_;clear hK K
       refine wC fun X Y hX hY=>?_
       simp only [UP,DF,Nc,↓reduceIte,DB]
       refine hY ?_;clear hX hY X Y
       refine wK fun K2 hK2=>?_
       refine wS fun K hK=>?_
       simp only [↓DN,Qa,Qb,Qc,Qd,Qe,Qf,Qg,Qh,reduceCtorEq,↓reduceIte,Na,Nb,Nc,Nk,Nf,Ng,Nh,Za,Zb,Zc,TT,int_eq_no h2]
       refine hK _ _ ?_;clear hK K
       refine wC fun X Y hX hY=>?_
       simp only [UP,DF,Nc,↓reduceIte,DB]
       refine hY ?_;clear hX hY X Y
       by_cases h1 : rk = 1
       ·by_cases he : re≤l3
        ·rw [if_pos (.inr ⟨h1,rfl,he⟩)] at hV
         refine wE fun K hK=>?_
         simp only [↓DN,Qa,Qb,Qc,Qd,Qe,Qf,Qg,Qh,reduceCtorEq,↓reduceIte,Na,Nb,Nc,Nk,Nf,Ng,Nh,Za,Zb,Zc,TT,int_eq_yes h1,hl5,decide_eq_true he]
         refine hK _ _ ?_;clear hK K
         refine hK2 _ _ ?_;clear hK2 K2
         refine wC fun X Y hX hY=>?_
         simp only [UP,DF,Nc,↓reduceIte,DB]
         refine hX ?_;clear hX hY X Y
         refine wS fun K hK=>?_
         simp only [↓DN,Qa,Qb,Qc,Qd,Qe,Qf,Qg,Qh,reduceCtorEq,↓reduceIte,Na,Nb,Nc,Nk,Nf,Ng,Nh,Za,Zb,Zc,TT]
         refine hK _ _ ?_;clear hK K
         refine awp_ret ?_
         try simp only [thenQ,blockQ]
         simp only [retQ,AEnds,aresL,ares,List.toList_toArray,↓upd_same]; try simp only [UP,DF,Nc,↓reduceIte,DT]
         exact ⟨_,_,AV.weak.refl _,AS.le.refl _,by rw [hV],hle⟩
        ·rw [if_neg (by rintro (k | k); exact h2 k.1; exact he k.2.2)] at hV
         refine wE fun K hK=>?_
         simp only [↓DN,Qa,Qb,Qc,Qd,Qe,Qf,Qg,Qh,reduceCtorEq,↓reduceIte,Na,Nb,Nc,Nk,Nf,Ng,Nh,Za,Zb,Zc,TT,int_eq_yes h1,hl5,decide_eq_false he]
         refine hK _ _ ?_;clear hK K
         refine hK2 _ _ ?_;clear hK2 K2
         refine wC fun X Y hX hY=>?_
         simp only [UP,DF,Nc,↓reduceIte,DB]
         refine hY ?_;clear hX hY X Y
         refine awp_skip ?_
         refine hK _ _ ?_;clear hK K
         refine wS fun K hK=>?_
         simp only [↓DN,Qa,Qb,Qc,Qd,Qe,Qf,Qg,Qh,reduceCtorEq,↓reduceIte,Na,Nb,Nc,Nk,Nf,Ng,Nh,Za,Zb,Zc,TT]
         refine hK _ _ ?_;clear hK K
         refine awp_ret ?_
         try simp only [thenQ,blockQ]
         simp only [retQ,AEnds,aresL,ares,List.toList_toArray,↓upd_same]; try simp only [UP,DF,Nc,↓reduceIte,DT]
         exact ⟨_,_,AV.weak.refl _,AS.le.refl _,by rw [hV],hle⟩
       ·rw [if_neg (by rintro (k | k); exact h2 k.1; exact h1 k.1)] at hV
        refine wE fun K hK=>?_
        simp only [↓DN,Qa,Qb,Qc,Qd,Qe,Qf,Qg,Qh,reduceCtorEq,↓reduceIte,Na,Nb,Nc,Nk,Nf,Ng,Nh,Za,Zb,Zc,TT,int_eq_no h1]
        refine hK _ _ ?_;clear hK K
        refine hK2 _ _ ?_;clear hK2 K2
        refine wC fun X Y hX hY=>?_
        simp only [UP,DF,Nc,↓reduceIte,DB]
        refine hY ?_;clear hX hY X Y
        refine awp_skip ?_
        refine hK _ _ ?_;clear hK K
        refine wS fun K hK=>?_
        simp only [↓DN,Qa,Qb,Qc,Qd,Qe,Qf,Qg,Qh,reduceCtorEq,↓reduceIte,Na,Nb,Nc,Nk,Nf,Ng,Nh,Za,Zb,Zc,TT]
        refine hK _ _ ?_;clear hK K
        refine awp_ret ?_
        try simp only [thenQ,blockQ]
        simp only [retQ,AEnds,aresL,ares,List.toList_toArray,↓upd_same]; try simp only [UP,DF,Nc,↓reduceIte,DT]
        exact ⟨_,_,AV.weak.refl _,AS.le.refl _,by rw [hV],hle⟩
 ·rw [if_pos hr] at hV
  rw [decide_eq_false hr]
  simp only [↓DM,pval,DX,Nz,↓DN,Qa,Qb,Qc,Qd,Qe,Qf,Qg,Qh,reduceCtorEq,↓reduceIte,Na,Nb,Nc,Nk,Nf,Ng,Nh,Za,Zb,Zc,TT]
  refine hK _ _ ?_;clear hK K
  refine wC fun X Y hX hY=>?_
  simp only [UP,DF,Nc,↓reduceIte,DB]
  refine hX ?_;clear hX hY X Y
  refine wS fun K hK=>?_
  simp only [↓DN,Qa,Qb,Qc,Qd,Qe,Qf,Qg,Qh,reduceCtorEq,↓reduceIte,Na,Nb,Nc,Nk,Nf,Ng,Nh,Za,Zb,Zc,TT]
  refine hK _ _ ?_;clear hK K
  refine awp_ret ?_
  try simp only [thenQ,blockQ]
  simp only [retQ,AEnds,aresL,ares,List.toList_toArray,↓upd_same]; try simp only [UP,DF,Nc,↓reduceIte,DT]
  exact ⟨_,_,AV.weak.refl _,AS.le.refl _,by rw [hV],hle⟩
end Go.Proofs.Ytfbbckndpkmfcaa
namespace Go.Proofs.Ytfbbckndpkmfcaa
open Go Go.AM Go.Proofs
variable {Γ : Nat→List AV}
theorem own_none_le {a b : AS} {t : Nat} (h : a.le b) (k : b.own t = none) : a.own t = none:=by
 cases ho : a.own t with
 | none=>rfl
 | some e=>rw [h.own t e ho] at k; cases k
theorem zrow5 : zrow 5 [AV.v (.int .i64 0),.v (.int .i64 0),.v (.int .i64 0),.v (.int .i64 0),.v (.int .i64 0)] = [AV.v (.int .i64 0),.v (.int .i64 0),.v (.int .i64 0),.v (.int .i64 0),.v (.int .i64 0)]:=rfl
theorem ledAdd_calls {s0 s : AS} {p : Nat} {L : LedV} {gs : List GEnt} {gt ge b1 b2 : Nat} (h : LedS s0 s p L gs gt ge b1 b2) (hi : L.inv) (hc : 0≤L.count∧L.count≤2 ^ 40) (hg : gs.length≤2 ^ 40) (r : Rec) :
  ACalls Try.prog Γ 10 [.ptr p 0,.agg r.cells] s (fun v s'=>v = .v (.int .i64 (checkV L r))∧∃ gs' gt' ge',LedS s0 s' p (addV L r) gs' gt' ge' b1 b2):=by
 refine acalls_body Try.func10 rfl Try.ntmps10 Try.results10 (by simp) ?_
 have ho:=h.obj
 have hm1:=h.m1
 have hm2:=h.m2
 have hck:=ledCheck_calls (Γ:=Γ) h hi r
 have hfe:=find_grp r.group gs
 have hz : azero Try.prog 58 = some (.slice none 0 0):=by kernel_rfl
 have hkb : keyPlain (.int .i64) (.int .i64 r.bucket) = true:=rfl
 have hkg : keyPlain .string (.string ⟨r.group.toArray⟩) = true:=rfl
 have hcase:=lookE (gs:=gs) r.group
 rw [← h.val] at hcase
 have hss:=fun hn=>set_shr r.bucket L.shr hn
 have hsg:=fun v=>set_grp r.group v gs
 obtain ⟨V,hV⟩ : ∃ V,V = checkV L r:=⟨_,rfl⟩
 rw [← hV] at hck ⊢
 have hadd0 : V≠0→addV L r = L:=fun k=>by unfold addV; rw [← hV,if_pos k]
 have hadd3 : V = 0→r.kind = 3→addV L r = ⟨L.count + 1,r.time,L.gs,L.shr ++ [r.bucket]⟩:=fun k k3=>by unfold addV; rw [← hV,if_neg (fun q=>q k),if_pos k3]
 have hadde : V = 0→r.kind≠3→addV L r = ⟨L.count + 1,r.time,setE r.group (entsOf r.group L.gs ++ [entOf L r]) L.gs,L.shr⟩:=fun k k3=>by unfold addV; rw [← hV,if_neg (fun q=>q k),if_neg k3]
 have hnot : V = 0→r.kind = 3→r.bucket ∉ L.shr:=by
  intro k k3 hm
  rw [k] at hV
  unfold checkV at hV
  by_cases a : ¬ r.right
  ·rw [if_pos a] at hV
   cases hV
  ·rw [if_neg a] at hV
   by_cases b : r.time < L.time
   ·rw [if_pos b] at hV
    cases hV
   ·rw [if_neg b,if_pos k3,if_pos hm] at hV
    cases hV
 obtain ⟨LA,hLA⟩ : ∃ LA,LA = addV L r:=⟨_,rfl⟩
 rw [← hLA] at hadd0 hadd3 hadde ⊢
 unfold entOf at hadde
 have e1 : iadd .i64 L.count 1 = L.count + 1:=iadd_i64 (by omega)
 unfold ledC at ho
 obtain ⟨rk,rg,re,rt,rb,ry,rtr,rsc,rw'⟩:=r
 unfold Rec.cells at *
 simp only at *
 unfold bytesV at *
 clear hV hLA
 obtain ⟨VR,hVR⟩ : ∃ VR,VR = AV.rop [.v (.int .i64 rk),.sl 1 rg.length (rg.map byteV) .any,.v (.int .i64 re),.v (.int .i64 rt),.v (.int .i64 rb),.sl 1 ry.length (ry.map byteV) .any,.sl 1 rtr.length (rtr.map byteV) .any,.sl 1 rsc.length (rsc.map byteV) .any,.sl 1 rw'.length (rw'.map byteV) .any]:=⟨_,rfl⟩
 refine awp_reg_frz 3 (by decide) ?_
 intro K hK
 simp only [↓DM,pval,DX,Nz,↓DN,Qa,Qb,Qc,Qd,Qe,Qf,Qg,Qh,reduceCtorEq,↓reduceIte,Na,Nb,Nc,Nk,Nf,Ng,Nh,Za,Zb,Zc,TT]
 intro o3 q3
 refine hK _ _ o3 _ (by simp only [upd,Nc,↓reduceIte]) q3 ?_
 clear hK K q3
 refine wK fun K hK=>?_
 refine wS fun K hK=>?_
 simp only [↓DN,Qa,Qb,Qc,Qd,Qe,Qf,Qg,Qh,reduceCtorEq,↓reduceIte,Na,Nb,Nc,Nk,Nf,Ng,Nh,Za,Zb,Zc,TT]
 refine acallk hck ?_
 rintro r s1 ⟨rfl,rfl⟩
 simp only [↓DM,pval,DX,Nz,↓DN,Qa,Qb,Qc,Qd,Qe,Qf,Qg,Qh,reduceCtorEq,↓reduceIte,Na,Nb,Nc,Nk,Nf,Ng,Nh,Za,Zb,Zc,TT]
 refine hK _ _ ?_;clear hK K
 by_cases hv : V = 0
 ·refine wS fun K hK=>?_
  simp only [↓DN,Qa,Qb,Qc,Qd,Qe,Qf,Qg,Qh,reduceCtorEq,↓reduceIte,Na,Nb,Nc,Nk,Nf,Ng,Nh,Za,Zb,Zc,TT,int_bne_false hv]
  refine hK _ _ ?_;clear hK K
  refine wC fun X Y hX hY=>?_
  simp only [UP,DF,Nc,↓reduceIte,DB]
  refine hY ?_;clear hX hY X Y
  refine awp_skip ?_
  refine hK _ _ ?_;clear hK K
  refine wK fun K hK=>?_
  have hJ : ∀ (E : Env) (s5 : AS) (xg : AV),E 0 = .ptr p 0→E 3 = VR→s5.objs p = some [.v (.int .i64 L.count),.v (.int .i64 L.time),xg,.v (.map (some b1)),.v (.map (some b2))] →
    (∃ gs' gt' ge',LedS s0 (s5.set p [.v (.int .i64 (L.count + 1)),.v (.int .i64 rt),xg,.v (.map (some b1)),.v (.map (some b2))]) p LA gs' gt' ge' b1 b2)→K E s5:=by
   intro E s5 xg g0 g3 hob hpost
   refine hK _ _ ?_;clear hK K
   refine wS fun K hK=>?_
   simp only [↓DN,Qa,Qb,Qc,Qd,Qe,Qf,Qg,Qh,reduceCtorEq,↓reduceIte,Na,Nb,Nc,Nk,Nf,Ng,Nh,Za,Zb,Zc,TT,g0,hob,e1]
   refine hK _ _ ?_;clear hK K
   refine wS fun K hK=>?_
   simp only [↓DN,Qa,Qb,Qc,Qd,Qe,Qf,Qg,Qh,reduceCtorEq,↓reduceIte,Na,Nb,Nc,Nk,Nf,Ng,Nh,Za,Zb,Zc,TT,g0,g3,hVR,AS.set_objs_same]
   refine hK _ _ ?_;clear hK K
   refine wS fun K hK=>?_
   simp only [↓DN,Qa,Qb,Qc,Qd,Qe,Qf,Qg,Qh,reduceCtorEq,↓reduceIte,Na,Nb,Nc,Nk,Nf,Ng,Nh,Za,Zb,Zc,TT]
   refine hK _ _ ?_;clear hK K
   refine awp_ret ?_
   try simp only [thenQ,blockQ]
   simp only [retQ,AEnds,aresL,ares,List.toList_toArray,↓upd_same]; try simp only [UP,DF,Nc,↓reduceIte,DT]
   rw [hv]
   exact ⟨_,_,AV.weak.refl _,AS.le.refl _,rfl,hpost⟩
  clear hK
  by_cases h3 : rk = 3
  ·have hn:=hnot hv h3
   refine wS fun K hK=>?_
   simp only [↓DN,Qa,Qb,Qc,Qd,Qe,Qf,Qg,Qh,reduceCtorEq,↓reduceIte,Na,Nb,Nc,Nk,Nf,Ng,Nh,Za,Zb,Zc,TT,int_eq_yes h3]
   refine hK _ _ ?_;clear hK K
   refine wC fun X Y hX hY=>?_
   simp only [UP,DF,Nc,↓reduceIte,DB]
   refine hX ?_;clear hX hY X Y
   refine awp_drw_end T.mixed [3,6] (by kernel_rfl) ?_
   intro K hK
   simp only [↓DM,pval,DX,Nz,↓DN,Qa,Qb,Qc,Qd,Qe,Qf,Qg,Qh,reduceCtorEq,↓reduceIte,Na,Nb,Nc,Nk,Nf,Ng,Nh,Za,Zb,Zc,TT,ho,amOf,avOf,hm2,Try.underlying50,Try.underlying3,hkb,hss hn]
   refine hK _ _ ?_;clear hK K
   refine hJ _ _ (grpAV gs gt ge) (by simp only [upd,initE,List.getD_cons_zero,List.getD_cons_succ,Nc,↓reduceIte]) (by rw [hVR]; exact (by simp only [upd,Nc,↓reduceIte])) (by rw [AS.setMap_objs]; exact ho) ⟨gs,gt,ge,?_⟩
   rw [hadd3 hv h3]
   exact {
    val:=h.val
    obj:=by rw [AS.set_objs_same]; rfl
    m1:=by rw [AS.set_maps,AS.setMap_ne _ h.ne]; exact hm1
    m2:=by rw [AS.set_maps,AS.setMap_same,List.map_append]; rfl
    ne:=h.ne
    own:=h.own
    nodup:=h.nodup
    gown:=h.gown
    p0:=h.p0
    b10:=h.b10
    b20:=h.b20
    le:=AS.le_set (AS.le_setMap h.le h.b20 _) h.p0 _ }
  ·refine wS fun K hK=>?_
   simp only [↓DN,Qa,Qb,Qc,Qd,Qe,Qf,Qg,Qh,reduceCtorEq,↓reduceIte,Na,Nb,Nc,Nk,Nf,Ng,Nh,Za,Zb,Zc,TT,int_eq_no h3]
   refine hK _ _ ?_;clear hK K
   refine wC fun X Y hX hY=>?_
   simp only [UP,DF,Nc,↓reduceIte,DB]
   refine hY ?_;clear hX hY X Y
   refine wS fun K hK=>?_
   simp only [↓DN,Qa,Qb,Qc,Qd,Qe,Qf,Qg,Qh,reduceCtorEq,↓reduceIte,Na,Nb,Nc,Nk,Nf,Ng,Nh,Za,Zb,Zc,TT]
   refine hK _ _ ?_;clear hK K
   rcases hcase with ⟨q1,q2,_⟩ | ⟨x,hx,q1,q2,q3,_⟩
   ·rw [q1] at hfe
    simp only [Option.map_none] at hfe
    refine wK fun K hK=>?_
    have hN : ∀ (E : Env) (s5 : AS) (gt' ge' : Nat),E 0 = .ptr p 0→E 3 = VR→E 6 = .v (.string ⟨rg.toArray⟩)→s5.objs p = some [.v (.int .i64 L.count),.v (.int .i64 L.time),.sl 1 (gs.length + 1) ((gs.map fun x=>strC x.g) ++ [strC rg]) (.own gt' ge'),.v (.map (some b1)),.v (.map (some b2))] →
      s5.maps = s1.maps→s5.own gt' = some ge'→(∀ x ∈ gs,s5.own x.t = some x.e)→s0.own gt' = none→gt' ∉ gs.map GEnt.t→s0.le s5→K E s5:=by
     intro E s5 gt' ge' g0 g3 g6 hob hmp how hox h0 hnin hle5
     refine hK _ _ ?_;clear hK K
     have hm1' : s5.maps b1 = some (.map (gs.map GEnt.kv)):=by rw [hmp]; exact hm1
     have hix : (gs.findIdx? fun x=>decide (rg = x.g)) = none:=by
      rw [List.findIdx?_eq_none_iff]
      intro x hx
      have:=List.find?_eq_none.1 q1 x hx
      simpa using this
     have hsgv : ∀ v,amSet .string (.string ⟨rg.toArray⟩) v (gs.map GEnt.kv) = some (gs.map GEnt.kv ++ [(.string ⟨rg.toArray⟩,v)]):=fun v=>by rw [hsg v,hix]
     generalize hXG : (AV.sl 1 (gs.length + 1) ((gs.map fun x=>strC x.g) ++ [strC rg]) (.own gt' ge')) = XG at hob
     refine awp_mrk_end T.mixed [(p,[.v (.int .i64 L.count),.v (.int .i64 L.time),XG,.v (.map (some b1)),.v (.map (some b2))])] [10,25,26] [3,8,14] [] (by kernel_rfl) (by simp only [Pres_cons,Pres_nil,and_true]; simp [AS.set,upd,hob]) ?_
     intro K hK
     simp only [↓AXr_nil,↓AXr_cons,gval,lval,fzGet_cons,fzGet_nil,Pres_cons,Pres_nil,List.any_cons,List.any_nil,List.contains_cons,List.contains_nil,Nat.reduceBEq,Bool.or_false,Bool.or_true,Bool.or_self,Bool.false_or,↓DN,Qa,Qb,Qc,Qd,Qe,Qf,Qg,Qh,reduceCtorEq,↓reduceIte,Na,Nb,Nc,Nk,Nf,Ng,Nh,Za,Zb,Zc,TT,g0,g3,hVR,g6,hob,amOf,avOf,hm1',AS.gain_maps,AS.setMap_objs,Try.underlying49,Try.underlying9,hz,hkg,hfe,hsgv,zrow5,List.replicate_succ,List.replicate_zero]
     intro t ht
     have ht0 : s0.own t = none:=own_none_le hle5 ht
     have htg : t≠gt':=by rintro rfl; rw [how] at ht; cases ht
     have htx : ∀ x ∈ gs,t≠x.t:=by
      rintro x hx rfl
      rw [hox x hx] at ht
      cases ht
     refine hK _ _ ?_
     refine hJ _ _ XG (by simp only [upd,g0,Nc,↓reduceIte]) (by simp only [upd,g3,Nc,↓reduceIte]) (by rw [AS.setMap_objs,AS.gain_objs]; exact hob) ⟨gs ++ [⟨rg,[⟨L.count,rk,re,rt,rb⟩],t,0⟩],gt',ge',?_⟩
     rw [hadde hv h3,q2]
     exact {
      val:=by rw [setE_new (hasE_none q1 h.val)]; simp [GEnt.val,h.val]
      obj:=by rw [AS.set_objs_same,← hXG]; unfold ledC grpAV; simp
      m1:=by rw [AS.set_maps,AS.setMap_same]; simp [GEnt.kv,GEnt.av,rowC,EntV.cells]
      m2:=by rw [AS.set_maps,AS.setMap_ne _ h.ne.symm,AS.gain_maps,hmp]; exact hm2
      ne:=h.ne
      own:=by
       intro x hx
       rw [List.mem_append,List.mem_singleton] at hx
       rcases hx with hx | rfl
       ·have e:=htx x hx
        refine ⟨?_,(h.own x hx).2⟩
        simp [AS.gain,AS.set,AS.setMap,AS.putM,upd,e.symm,hox x hx]
       ·exact ⟨by simp [AS.gain,AS.set,AS.setMap,AS.putM],ht0⟩
      nodup:=by
       rw [List.map_append,List.nodup_append]
       refine ⟨h.nodup,by simp,?_⟩
       intro a ha b hb e
       simp only [List.map_cons,List.map_nil,List.mem_singleton] at hb
       obtain ⟨x,hx,rfl⟩:=List.mem_map.1 ha
       exact htx x hx (by rw [e,hb])
      gown:=by
       intro _
       refine ⟨by simp [AS.gain,AS.set,AS.setMap,AS.putM,upd,htg.symm,how],h0,?_⟩
       rw [List.map_append,List.mem_append]
       rintro (hx | hx)
       ·exact hnin hx
       ·simp only [List.map_cons,List.map_nil,List.mem_singleton] at hx
        exact htg hx.symm
      p0:=h.p0
      b10:=h.b10
      b20:=h.b20
      le:=AS.le_set (AS.le_setMap (AS.le_gain hle5 ht0 0) h.b10 _) h.p0 _ }
    clear hK
    refine wS fun K hK=>?_
    simp only [↓DN,Qa,Qb,Qc,Qd,Qe,Qf,Qg,Qh,reduceCtorEq,↓reduceIte,Na,Nb,Nc,Nk,Nf,Ng,Nh,Za,Zb,Zc,TT,ho,amOf,avOf,hm1,Try.underlying49,Try.underlying9,hz,hkg,hfe,show (((0 : Nat) : Int) == 0) = true from rfl]
    refine hK _ _ ?_;clear hK K
    refine wC fun X Y hX hY=>?_
    simp only [UP,DF,Nc,↓reduceIte,DB]
    refine hX ?_;clear hX hY X Y
    have hps : ∀ o,s0.objs o = none→True:=fun _ _=>trivial
    by_cases hgs : gs = []
    ·have hgv : grpAV gs gt ge = nilS:=if_pos hgs
     rw [hgv] at ho
     unfold nilS at ho
     refine wE fun K hK=>?_
     simp only [↓DN,Qa,Qb,Qc,Qd,Qe,Qf,Qg,Qh,reduceCtorEq,↓reduceIte,Na,Nb,Nc,Nk,Nf,Ng,Nh,Za,Zb,Zc,TT,ho,List.replicate_succ,List.replicate_zero]
     intro t ht
     have ht0 : s0.own t = none:=own_none_le h.le ht
     refine hK _ _ (hN _ _ t 0 (by simp only [upd,initE,List.getD_cons_zero,List.getD_cons_succ,Nc,↓reduceIte]) (by rw [hVR]; exact (by simp only [upd,Nc,↓reduceIte])) (by simp only [upd,Nc,↓reduceIte]) ?_ rfl (by simp [AS.gain,AS.set]) (by rw [hgs]; intro x hx; cases hx) ht0 (by rw [hgs]; simp) (AS.le_set (AS.le_gain h.le ht0 0) h.p0 _))
     rw [AS.set_objs_same,hgs]
     rfl
    ·obtain ⟨w1,w2,w3⟩:=h.gown hgs
     have hgv : grpAV gs gt ge = .sl 1 gs.length (gs.map fun x=>strC x.g) (.own gt ge):=if_neg hgs
     rw [hgv] at ho
     refine wE fun K hK=>?_
     simp only [↓DN,Qa,Qb,Qc,Qd,Qe,Qf,Qg,Qh,reduceCtorEq,↓reduceIte,Na,Nb,Nc,Nk,Nf,Ng,Nh,Za,Zb,Zc,TT,ho,w1,List.replicate_succ,List.replicate_zero]
     refine ⟨by omega,by omega,hK _ _ (hN _ _ gt (ge + 1) (by simp only [upd,initE,List.getD_cons_zero,List.getD_cons_succ,Nc,↓reduceIte]) (by rw [hVR]; exact (by simp only [upd,Nc,↓reduceIte])) (by simp only [upd,Nc,↓reduceIte]) ?_ rfl (by simp [AS.gain,AS.set]) ?_ w2 w3 (AS.le_set (AS.le_gain h.le w2 _) h.p0 _))⟩
     ·rw [AS.set_objs_same]
      rfl
     ·intro x hx
      have e : x.t≠gt:=fun e=>w3 (e ▸ List.mem_map_of_mem hx)
      simp [AS.gain,AS.set,upd,e,(h.own x hx).1]
   ·rw [q1] at hfe
    simp only [Option.map_some,GEnt.av] at hfe
    obtain ⟨hne,hl40⟩:=hi.gs h.val x hx
    obtain ⟨i,hii,hxi,hix⟩:=find_idx q1
    have hsgv : ∀ v,amSet .string (.string ⟨rg.toArray⟩) v (gs.map GEnt.kv) = some ((gs.map GEnt.kv).modify i fun y=>(y.1,v)):=fun v=>by rw [hsg v,hix]
    have hl0 : 0 < x.es.length:=List.length_pos_iff.2 hne
    have e0 : ((x.es.length : Int) == 0) = false:=by rw [beq_eq_false_iff_ne]; omega
    obtain ⟨w1,w2⟩:=h.own x hx
    generalize hXG : grpAV gs gt ge = XG at ho
    generalize hXE : rowC EntV.cells x.es = XE at *
    refine wK fun K hK=>?_
    refine wS fun K hK=>?_
    simp only [↓DN,Qa,Qb,Qc,Qd,Qe,Qf,Qg,Qh,reduceCtorEq,↓reduceIte,Na,Nb,Nc,Nk,Nf,Ng,Nh,Za,Zb,Zc,TT,ho,amOf,avOf,hm1,Try.underlying49,Try.underlying9,hz,hkg,hfe,e0]
    refine hK _ _ ?_;clear hK K
    refine wC fun X Y hX hY=>?_
    simp only [UP,DF,Nc,↓reduceIte,DB]
    refine hY ?_;clear hX hY X Y
    refine awp_skip ?_
    refine hK _ _ ?_;clear hK K
    refine awp_mrk_end T.mixed [(p,[.v (.int .i64 L.count),.v (.int .i64 L.time),XG,.v (.map (some b1)),.v (.map (some b2))])] [10,25,26] [3,8,14] [] (by kernel_rfl) (by simp only [Pres_cons,Pres_nil,and_true]; simp [AS.set,upd,ho]) ?_
    intro K hK
    simp only [↓AXr_nil,↓AXr_cons,gval,lval,fzGet_cons,fzGet_nil,Pres_cons,Pres_nil,List.any_cons,List.any_nil,List.contains_cons,List.contains_nil,Nat.reduceBEq,Bool.or_false,Bool.or_true,Bool.or_self,Bool.false_or,↓DN,Qa,Qb,Qc,Qd,Qe,Qf,Qg,Qh,reduceCtorEq,↓reduceIte,Na,Nb,Nc,Nk,Nf,Ng,Nh,Za,Zb,Zc,TT,ho,amOf,avOf,hm1,w1,AS.gain_maps,AS.setMap_objs,Try.underlying49,Try.underlying9,hz,hkg,hfe,hsgv,zrow5,List.replicate_succ,List.replicate_zero]
    refine ⟨by omega,by omega,?_⟩
    refine hK _ _ ?_
    refine hJ _ _ XG (by simp only [upd,initE,List.getD_cons_zero,List.getD_cons_succ,Nc,↓reduceIte]) (by rw [hVR]; exact (by simp only [upd,Nc,↓reduceIte])) (by rw [AS.setMap_objs,AS.gain_objs]; exact ho) ⟨gs.set i ⟨rg,x.es ++ [⟨L.count,rk,re,rt,rb⟩],x.t,x.e + 1⟩,gt,ge,?_⟩
    rw [hadde hv h3,q3]
    exact {
     val:=by rw [h.val]; exact setE_set hii hxi q1 hix q2
     obj:=by rw [AS.set_objs_same,← hXG]; unfold ledC; rw [grpAV_set hii hxi q2]
     m1:=by rw [AS.set_maps,AS.setMap_same]; rw [← hXE]; exact congrArg (fun x=>some (MO.map x)) (kv_set (d:=⟨L.count,rk,re,rt,rb⟩) hii hxi q2)
     m2:=by rw [AS.set_maps,AS.setMap_ne _ h.ne.symm,AS.gain_maps]; exact hm2
     ne:=h.ne
     own:=by
      intro y hy
      have hs : ((s1.gain x.t (x.e + 1)).setMap b1 ((gs.map GEnt.kv).modify i fun y=>(y.1,AV.sl 5 (x.es.length + 1) (XE ++ [.v (.int .i64 L.count),.v (.int .i64 rk),.v (.int .i64 re),.v (.int .i64 rt),.v (.int .i64 rb)]) (.own x.t (x.e + 1))))).own = upd s1.own x.t (some (x.e + 1)):=rfl
      rcases mem_set_nodup h.nodup hii hxi hy with rfl | ⟨hy,hyt⟩
      ·exact ⟨by simp [AS.gain,AS.set,AS.setMap,AS.putM],w2⟩
      ·exact ⟨by simp [AS.gain,AS.set,AS.setMap,AS.putM,upd,hyt,(h.own y hy).1],(h.own y hy).2⟩
     nodup:=by rw [toks_set hii hxi]; exact h.nodup
     gown:=by
      intro _
      have hgs : gs≠[]:=fun e=>by rw [e] at hx; cases hx
      obtain ⟨a1,a2,a3⟩:=h.gown hgs
      have e : gt≠x.t:=fun e=>a3 (e ▸ List.mem_map_of_mem hx)
      refine ⟨by simp [AS.gain,AS.set,AS.setMap,AS.putM,upd,e,a1],a2,?_⟩
      rw [toks_set hii hxi]
      exact a3
     p0:=h.p0
     b10:=h.b10
     b20:=h.b20
     le:=AS.le_set (AS.le_setMap (AS.le_gain h.le w2 _) h.b10 _) h.p0 _ }
 ·refine wS fun K hK=>?_
  simp only [↓DN,Qa,Qb,Qc,Qd,Qe,Qf,Qg,Qh,reduceCtorEq,↓reduceIte,Na,Nb,Nc,Nk,Nf,Ng,Nh,Za,Zb,Zc,TT,int_bne_true hv]
  refine hK _ _ ?_;clear hK K
  refine wC fun X Y hX hY=>?_
  simp only [UP,DF,Nc,↓reduceIte,DB]
  refine hX ?_;clear hX hY X Y
  refine wS fun K hK=>?_
  simp only [↓DN,Qa,Qb,Qc,Qd,Qe,Qf,Qg,Qh,reduceCtorEq,↓reduceIte,Na,Nb,Nc,Nk,Nf,Ng,Nh,Za,Zb,Zc,TT]
  refine hK _ _ ?_;clear hK K
  refine awp_ret ?_
  try simp only [thenQ,blockQ]
  simp only [retQ,AEnds,aresL,ares,List.toList_toArray,↓upd_same]; try simp only [UP,DF,Nc,↓reduceIte,DT]
  rw [hadd0 hv]
  exact ⟨_,_,AV.weak.refl _,AS.le.refl _,rfl,gs,gt,ge,h⟩
end Go.Proofs.Ytfbbckndpkmfcaa
namespace Go.Proofs.Ytfbbckndpkmfcaa
open Go Go.AM Go.Proofs
variable {Γ : Nat→List AV}
theorem eye_succM (i : Nat) (h : i < 2 ^ 62) : iadd .i64 (i : Int) 1 = ((i + 1 : Nat) : Int):=by
 rw [iadd_i64 (by omega)]
 rfl
theorem take_map {α : Type} (f : α→AV) {l : List α} {i : Nat} (h : i < l.length) : List.take 1 (List.drop i (l.map f)) = [f l[i]]:=by
 rw [List.drop_eq_getElem_cons (by simpa using h),List.getElem_map]
 rfl
theorem tidyL {P : Program} {f : FuncId} {args : List AV} {s : AS} {Q : AV→Prop} (h : ACalls P Γ f args s (fun r s'=>Q r∧s.le s')) : ACalls P Γ f args s (fun r s'=>Q r∧s' = s) :=
 ACalls.forget h fun r s' ⟨h1,h2⟩=>⟨s,h2,h1,rfl⟩
def entsV (l : List EntV) : AV:=.sl 5 l.length (rowC EntV.cells l) .any
theorem cloneEnt_calls (l : List EntV) (hn : l≠[]) (hl : l.length≤2 ^ 40) (s : AS) : ACalls Try.prog Γ 46 [entsV l] s (fun r s'=>r = entsV l∧s' = s):=by
 refine tidyL (Q:=fun r=>r = entsV l) ?_
 refine acalls_body Try.func46 rfl Try.ntmps46 Try.results46 (by simp) ?_
 have h0 : l.length≠0:=fun e=>hn (List.length_eq_zero_iff.1 e)
 have hone : (rowC EntV.cells l).all AV.one = true:=by
  rw [List.all_eq_true]
  intro c hc
  simp only [rowC,List.mem_flatten,List.mem_map] at hc
  obtain ⟨_,⟨n,-,rfl⟩,hc⟩:=hc
  simp only [EntV.cells,List.mem_cons,List.not_mem_nil,or_false] at hc
  rcases hc with rfl | rfl | rfl | rfl | rfl <;> rfl
 unfold entsV
 generalize rowC EntV.cells l = X at *
 refine wS fun K hK=>?_
 simp only [↓DN,Qa,Qb,Qc,Qd,Qe,Qf,Qg,Qh,reduceCtorEq,↓reduceIte,Na,Nb,Nc,Nk,Nf,Ng,Nh,Za,Zb,Zc,TT]
 refine hK _ _ ?_;clear hK K
 refine wK fun K hK=>?_
 refine wS fun K hK=>?_
 simp only [↓DN,Qa,Qb,Qc,Qd,Qe,Qf,Qg,Qh,reduceCtorEq,↓reduceIte,Na,Nb,Nc,Nk,Nf,Ng,Nh,Za,Zb,Zc,TT,h0]
 refine hK _ _ ?_;clear hK K
 refine wC fun X Y hX hY=>?_
 simp only [UP,DF,Nc,↓reduceIte,DB]
 refine hY ?_;clear hX hY X Y
 refine awp_skip ?_
 refine hK _ _ ?_;clear hK K
 refine wS fun K hK=>?_
 simp only [↓DN,Qa,Qb,Qc,Qd,Qe,Qf,Qg,Qh,reduceCtorEq,↓reduceIte,Na,Nb,Nc,Nk,Nf,Ng,Nh,Za,Zb,Zc,TT,h0,hone]
 refine ⟨by omega,by omega,fun t ht=>?_⟩
 refine hK _ _ ?_;clear hK K
 refine awp_ret ?_
 try simp only [thenQ,blockQ]
 simp only [retQ,AEnds,aresL,ares,List.toList_toArray,↓upd_same]; try simp only [UP,DF,Nc,↓reduceIte,DT]
 exact ⟨_,_,AV.weak_any,AS.le.refl _,rfl,AS.le_gain (AS.le.refl s) ht 0⟩
theorem cloneEntNil_calls (s : AS) : ACalls Try.prog Γ 46 [.v (.slice none 0 0)] s (fun r s'=>r = .v (.slice none 0 0)∧s' = s):=by
 refine acalls_body Try.func46 rfl Try.ntmps46 Try.results46 (by simp) ?_
 refine wS fun K hK=>?_
 simp only [↓DN,Qa,Qb,Qc,Qd,Qe,Qf,Qg,Qh,reduceCtorEq,↓reduceIte,Na,Nb,Nc,Nk,Nf,Ng,Nh,Za,Zb,Zc,TT]
 refine hK _ _ ?_;clear hK K
 refine wK fun K hK=>?_
 refine wS fun K hK=>?_
 simp only [↓DN,Qa,Qb,Qc,Qd,Qe,Qf,Qg,Qh,reduceCtorEq,↓reduceIte,Na,Nb,Nc,Nk,Nf,Ng,Nh,Za,Zb,Zc,TT]
 refine hK _ _ ?_;clear hK K
 refine wC fun X Y hX hY=>?_
 simp only [UP,DF,Nc,↓reduceIte,DB]
 refine hX ?_;clear hX hY X Y
 refine wS fun K hK=>?_
 simp only [↓DN,Qa,Qb,Qc,Qd,Qe,Qf,Qg,Qh,reduceCtorEq,↓reduceIte,Na,Nb,Nc,Nk,Nf,Ng,Nh,Za,Zb,Zc,TT]
 refine hK _ _ ?_;clear hK K
 refine awp_ret ?_
 try simp only [thenQ,blockQ]
 simp only [retQ,AEnds,aresL,ares,List.toList_toArray,↓upd_same]; try simp only [UP,DF,Nc,↓reduceIte,DT]
 exact ⟨_,_,AV.weak.refl _,AS.le.refl _,rfl,rfl⟩
theorem ledEntries_calls {s0 s : AS} {p : Nat} {L : LedV} {gs : List GEnt} {gt ge b1 b2 : Nat} (h : LedS s0 s p L gs gt ge b1 b2) (hi : L.inv) (g : List UInt8) :
  ACalls Try.prog Γ 34 [.ptr p 0,bytesV g .any] s (fun r s'=>r = entsV (entsOf g L.gs)∧s' = s):=by
 refine acalls_body Try.func34 rfl Try.ntmps34 Try.results34 (by simp) ?_
 have ho:=h.obj
 have hm:=h.m1
 have hf:=find_grp g gs
 have hz : azero Try.prog 58 = some (.slice none 0 0):=by kernel_rfl
 have hk : keyPlain .string (.string ⟨g.toArray⟩) = true:=rfl
 have hcase:=lookE (gs:=gs) g
 rw [← h.val] at hcase
 unfold ledC at ho
 unfold bytesV
 rcases hcase with ⟨h1,h2,_⟩ | ⟨x,hx,h1,h2,h3,_⟩
 ·rw [h1] at hf
  rw [h2]
  refine wS fun K hK=>?_
  simp only [↓DN,Qa,Qb,Qc,Qd,Qe,Qf,Qg,Qh,reduceCtorEq,↓reduceIte,Na,Nb,Nc,Nk,Nf,Ng,Nh,Za,Zb,Zc,TT]
  refine hK _ _ ?_;clear hK K
  refine awp_drw_seq T.mixed [3,6,7] (by kernel_rfl) ?_
  intro K hK
  simp only [↓DM,pval,DX,Nz,↓DN,Qa,Qb,Qc,Qd,Qe,Qf,Qg,Qh,reduceCtorEq,↓reduceIte,Na,Nb,Nc,Nk,Nf,Ng,Nh,Za,Zb,Zc,TT,ho,amOf,avOf,hm,Try.underlying49,Try.underlying9,hz,hk,hf]
  refine acallk (cloneEntNil_calls _) ?_
  rintro r s1 ⟨rfl,rfl⟩
  simp only [↓DM,pval,DX,Nz,↓DN,Qa,Qb,Qc,Qd,Qe,Qf,Qg,Qh,reduceCtorEq,↓reduceIte,Na,Nb,Nc,Nk,Nf,Ng,Nh,Za,Zb,Zc,TT]
  refine hK _ _ ?_;clear hK K
  refine awp_ret ?_
  try simp only [thenQ,blockQ]
  simp only [retQ,AEnds,aresL,ares,List.toList_toArray,↓upd_same]; try simp only [UP,DF,Nc,↓reduceIte,DT]
  exact ⟨_,_,AV.weak_nil,AS.le.refl _,rfl,rfl⟩
 ·obtain ⟨hne,hl40⟩:=hi.gs h.val x hx
  rw [h1] at hf
  simp only [Option.map_some,GEnt.av] at hf
  rw [h3]
  have hcl:=fun s=>ACalls.weaks (.cons (AV.weak_any (sp:=.own x.t x.e)) .nil) (cloneEnt_calls (Γ:=Γ) x.es hne hl40 s)
  unfold entsV at *
  generalize rowC EntV.cells x.es = X at *
  refine wS fun K hK=>?_
  simp only [↓DN,Qa,Qb,Qc,Qd,Qe,Qf,Qg,Qh,reduceCtorEq,↓reduceIte,Na,Nb,Nc,Nk,Nf,Ng,Nh,Za,Zb,Zc,TT]
  refine hK _ _ ?_;clear hK K
  refine awp_drw_seq T.mixed [3,6,7] (by kernel_rfl) ?_
  intro K hK
  simp only [↓DM,pval,DX,Nz,↓DN,Qa,Qb,Qc,Qd,Qe,Qf,Qg,Qh,reduceCtorEq,↓reduceIte,Na,Nb,Nc,Nk,Nf,Ng,Nh,Za,Zb,Zc,TT,ho,amOf,avOf,hm,Try.underlying49,Try.underlying9,hz,hk,hf]
  refine acallk (hcl _) ?_
  rintro r s1 ⟨rfl,rfl⟩
  simp only [↓DM,pval,DX,Nz,↓DN,Qa,Qb,Qc,Qd,Qe,Qf,Qg,Qh,reduceCtorEq,↓reduceIte,Na,Nb,Nc,Nk,Nf,Ng,Nh,Za,Zb,Zc,TT]
  refine hK _ _ ?_;clear hK K
  refine awp_ret ?_
  try simp only [thenQ,blockQ]
  simp only [retQ,AEnds,aresL,ares,List.toList_toArray,↓upd_same]; try simp only [UP,DF,Nc,↓reduceIte,DT]
  exact ⟨_,_,AV.weak.refl _,AS.le.refl _,rfl,rfl⟩
def grpC (g : List UInt8) : AV:=.sl 1 g.length (g.map byteV) .no
theorem grps_weak (l : List (List UInt8)) : AVs.weak (l.map grpC) (l.map fun g=>bytesV g .any):=by
 induction l with
 | nil=>exact .refl _
 | cons g l ih=>exact .cons AV.weak_any ih
def grpsV (l : List (List UInt8)) : AV:=.sl 1 l.length (l.map fun g=>bytesV g .any) .any
theorem ledGroups_calls {s0 s : AS} {p : Nat} {L : LedV} {gs : List GEnt} {gt ge b1 b2 : Nat} (h : LedS s0 s p L gs gt ge b1 b2) (hg : gs.length≤2 ^ 40) :
  ACalls Try.prog Γ 29 [.ptr p 0] s (fun r s'=>r = grpsV (L.gs.map (·.1))∧s' = s):=by
 refine tidyL (Q:=fun r=>r = grpsV (L.gs.map (·.1))) ?_
 refine acalls_body Try.func29 rfl Try.ntmps29 Try.results29 (by simp) ?_
 have ho:=h.obj
 unfold ledC at ho
 have hL : L.gs.map (·.1) = gs.map (·.g):=by rw [h.val,List.map_map]; rfl
 rw [hL]
 obtain ⟨N,hN⟩ : ∃ N,N = gs.map (·.g):=⟨_,rfl⟩
 have hNl : N.length = gs.length:=by rw [hN,List.length_map]
 rw [← hN]
 by_cases hgs : gs = []
 ·have hgv : grpAV gs gt ge = nilS:=if_pos hgs
  have hN0 : N = []:=by rw [hN,hgs]; rfl
  rw [hgv] at ho
  unfold nilS at ho
  rw [hN0]
  refine wS fun K hK=>?_
  simp only [↓DN,Qa,Qb,Qc,Qd,Qe,Qf,Qg,Qh,reduceCtorEq,↓reduceIte,Na,Nb,Nc,Nk,Nf,Ng,Nh,Za,Zb,Zc,TT]
  refine hK _ _ ?_;clear hK K
  refine wS fun K hK=>?_
  simp only [↓DN,Qa,Qb,Qc,Qd,Qe,Qf,Qg,Qh,reduceCtorEq,↓reduceIte,Na,Nb,Nc,Nk,Nf,Ng,Nh,Za,Zb,Zc,TT]
  refine hK _ _ ?_;clear hK K
  refine wK fun K hK=>?_
  refine wS fun K hK=>?_
  simp only [↓DN,Qa,Qb,Qc,Qd,Qe,Qf,Qg,Qh,reduceCtorEq,↓reduceIte,Na,Nb,Nc,Nk,Nf,Ng,Nh,Za,Zb,Zc,TT,ho]
  refine hK _ _ ?_;clear hK K
  refine awp_block ?_
  refine awp_loop (fun E s'=>E 11 = .v (.int .i64 0)∧E 10 = .v (.int .i64 0)∧E 3 = .v (.slice none 0 0)∧s' = s) (fun _ _=>0) ?_ ?_
  ·exact ⟨by simp only [upd,Nc,↓reduceIte],by simp only [upd,Nc,↓reduceIte]; rfl,by simp only [upd,Nc,↓reduceIte],rfl⟩
  ·rintro E1 s1 ⟨g11,g10,g3,rfl⟩ -
   refine wS fun K hK=>?_
   simp only [↓DN,Qa,Qb,Qc,Qd,Qe,Qf,Qg,Qh,reduceCtorEq,↓reduceIte,Na,Nb,Nc,Nk,Nf,Ng,Nh,Za,Zb,Zc,TT,g11,g10,show decide ((0 : Int) < 0) = false from rfl]
   refine hK _ _ ?_;clear hK K
   refine wK fun K2 hK2=>?_
   refine wC fun X Y hX hY=>?_
   simp only [UP,DF,Nc,↓reduceIte,DB]
   refine hY ?_;clear hX hY X Y
   refine awp_exit ?_
   simp only [thenQ,blockQ,if_true]
   refine hK _ _ ?_;clear hK hK2 K2 K
   refine wS fun K hK=>?_
   simp only [↓DN,Qa,Qb,Qc,Qd,Qe,Qf,Qg,Qh,reduceCtorEq,↓reduceIte,Na,Nb,Nc,Nk,Nf,Ng,Nh,Za,Zb,Zc,TT,g3]
   refine hK _ _ ?_;clear hK K
   refine awp_ret ?_
   try simp only [thenQ,blockQ]
   simp only [retQ,AEnds,aresL,ares,List.toList_toArray,↓upd_same]; try simp only [UP,DF,Nc,↓reduceIte,DT]
   exact ⟨_,_,AV.weak_nil,AS.le.refl _,rfl,AS.le.refl _⟩
 ·obtain ⟨w1,w2,w3⟩:=h.gown hgs
  have hgv : grpAV gs gt ge = .sl 1 gs.length (gs.map fun x=>strC x.g) (.own gt ge):=if_neg hgs
  have hX : (gs.map fun x : GEnt=>strC x.g) = N.map strC:=by rw [hN,List.map_map]; rfl
  rw [hgv,hX,← hNl] at ho
  have hat : ∀ i,(hi : i < N.length)→List.take 1 (List.drop i (N.map strC)) = [.v (.string ⟨N[i].toArray⟩)]:=by
   intro i hi
   exact take_map strC hi
  have htk : ∀ i,(hi : i < N.length)→(N.take (i + 1)).map grpC = (N.take i).map grpC ++ [.sl 1 N[i].length (N[i].map byteV) .no]:=by
   intro i hi
   rw [List.take_succ_eq_append_getElem hi,List.map_append]
   rfl
  generalize hXX : N.map strC = X at *
  refine wS fun K hK=>?_
  simp only [↓DN,Qa,Qb,Qc,Qd,Qe,Qf,Qg,Qh,reduceCtorEq,↓reduceIte,Na,Nb,Nc,Nk,Nf,Ng,Nh,Za,Zb,Zc,TT]
  refine hK _ _ ?_;clear hK K
  refine wS fun K hK=>?_
  simp only [↓DN,Qa,Qb,Qc,Qd,Qe,Qf,Qg,Qh,reduceCtorEq,↓reduceIte,Na,Nb,Nc,Nk,Nf,Ng,Nh,Za,Zb,Zc,TT]
  refine hK _ _ ?_;clear hK K
  refine wK fun K hK=>?_
  refine wS fun K hK=>?_
  simp only [↓DN,Qa,Qb,Qc,Qd,Qe,Qf,Qg,Qh,reduceCtorEq,↓reduceIte,Na,Nb,Nc,Nk,Nf,Ng,Nh,Za,Zb,Zc,TT,ho]
  refine hK _ _ ?_;clear hK K
  refine awp_block ?_
  refine awp_loop (fun E s'=>∃ (i : Nat) (x : AV),i≤N.length∧E 11 = .v (.int .i64 i)∧E 10 = .v (.int .i64 N.length)∧E 9 = .sl 1 N.length X (.own gt ge)∧E 3 = x∧RBuf 1 s s' x i ((N.take i).map grpC)∧s.le s')
   (fun E _=>match E 11 with | .v (.int _ i)=>N.length - i.toNat | _=>0) ?_ ?_
  ·exact ⟨0,nilS,Nat.zero_le _,by simp only [upd,Nc,↓reduceIte]; rfl,by simp only [upd,Nc,↓reduceIte],by simp only [upd,Nc,↓reduceIte],by simp only [upd,Nc,↓reduceIte]; rfl,RBuf.nil _ _ _,AS.le.refl _⟩
  ·rintro E1 s1 ⟨i,x,hi,g11,g10,g9,g3,hx,hle⟩ -
   by_cases hi' : i < N.length
   ·refine wS fun K hK=>?_
    simp only [↓DN,Qa,Qb,Qc,Qd,Qe,Qf,Qg,Qh,reduceCtorEq,↓reduceIte,Na,Nb,Nc,Nk,Nf,Ng,Nh,Za,Zb,Zc,TT,g11,g10,eye_lt_nat,decide_eq_true hi']
    refine hK _ _ ?_;clear hK K
    refine wK fun K2 hK2=>?_
    refine wC fun X Y hX hY=>?_
    simp only [UP,DF,Nc,↓reduceIte,DB]
    refine hX ?_;clear hX hY X Y
    refine awp_skip ?_
    refine hK2 _ _ ?_;clear hK2 K2
    refine wK fun K3 hK3=>?_
    refine awp_block ?_
    have hge : (0 : Int)≤((i : Nat) : Int):=by omega
    have hat':=hat i hi'
    have htk':=htk i hi'
    generalize N[i] = g at *
    refine wS fun K hK=>?_
    simp only [↓DN,Qa,Qb,Qc,Qd,Qe,Qf,Qg,Qh,reduceCtorEq,↓reduceIte,Na,Nb,Nc,Nk,Nf,Ng,Nh,Za,Zb,Zc,TT,g9,g11,hge,eye_lt_nat,hi',hat']
    refine hK _ _ ?_;clear hK K
    have hnx : ∀ (E : Env) (s2 : AS) (x : AV),E 11 = .v (.int .i64 i)→E 10 = .v (.int .i64 N.length)→E 9 = .sl 1 N.length X (.own gt ge)→E 3 = x→RBuf 1 s s2 x (i + 1) ((N.take (i + 1)).map grpC)→s.le s2→K3 E s2:=by
     intro E s2 x k11 g10 g9 g3 hx hle
     refine hK3 _ _ ?_;clear hK3 K3
     refine wE fun K hK=>?_
     simp only [↓DN,Qa,Qb,Qc,Qd,Qe,Qf,Qg,Qh,reduceCtorEq,↓reduceIte,Na,Nb,Nc,Nk,Nf,Ng,Nh,Za,Zb,Zc,TT,k11,eye_succM i (by omega)]
     refine hK _ _ ?_;clear hK K
     refine ⟨⟨i + 1,x,hi',by simp only [upd,Nc,↓reduceIte],by simp only [upd,g10,Nc,↓reduceIte],by simp only [upd,g9,Nc,↓reduceIte],by simp only [upd,g3,Nc,↓reduceIte],hx,hle⟩,?_⟩
     simp only [g11,upd,↓reduceIte]
     omega
    clear hK3
    rcases hx with ⟨rfl,hi0,hL0⟩ | ⟨tk,ek,rfl,htk1,htk0⟩
    ·refine wE fun K hK=>?_
     simp only [↓DN,Qa,Qb,Qc,Qd,Qe,Qf,Qg,Qh,reduceCtorEq,↓reduceIte,Na,Nb,Nc,Nk,Nf,Ng,Nh,Za,Zb,Zc,TT,g3,nilS,List.replicate_succ,List.replicate_zero]
     intro tk htk1
     have hk0:=own_none_le hle htk1
     refine hK _ _ (hnx _ _ (.sl 1 1 [.sl 1 g.length (g.map byteV) .no] (.own tk 0)) (by simp only [upd,g11,Nc,↓reduceIte]) (by simp only [upd,g10,Nc,↓reduceIte]) (by simp only [upd,g9,Nc,↓reduceIte]) (by simp only [upd,Nc,↓reduceIte]) ?_ (AS.le_gain hle hk0 0))
     refine .inr ⟨tk,0,?_,by simp [AS.gain],hk0⟩
     rw [htk',hL0]
     subst hi0
     rfl
    ·refine wE fun K hK=>?_
     simp only [↓DN,Qa,Qb,Qc,Qd,Qe,Qf,Qg,Qh,reduceCtorEq,↓reduceIte,Na,Nb,Nc,Nk,Nf,Ng,Nh,Za,Zb,Zc,TT,g3,htk1,List.replicate_succ,List.replicate_zero]
     refine ⟨by omega,by omega,hK _ _ (hnx _ _ (.sl 1 (i + 1) ((N.take i).map grpC ++ [.sl 1 g.length (g.map byteV) .no]) (.own tk (ek + 1))) (by simp only [upd,g11,Nc,↓reduceIte]) (by simp only [upd,g10,Nc,↓reduceIte]) (by simp only [upd,g9,Nc,↓reduceIte]) (by simp only [upd,Nc,↓reduceIte]) ?_ (AS.le_gain hle htk0 (ek + 1)))⟩
     exact .inr ⟨tk,ek + 1,by rw [htk'],by simp [AS.gain],htk0⟩
   ·refine wS fun K hK=>?_
    simp only [↓DN,Qa,Qb,Qc,Qd,Qe,Qf,Qg,Qh,reduceCtorEq,↓reduceIte,Na,Nb,Nc,Nk,Nf,Ng,Nh,Za,Zb,Zc,TT,g11,g10,eye_lt_nat,decide_eq_false hi']
    refine hK _ _ ?_;clear hK K
    refine wK fun K2 hK2=>?_
    refine wC fun X Y hX hY=>?_
    simp only [UP,DF,Nc,↓reduceIte,DB]
    refine hY ?_;clear hX hY X Y
    refine awp_exit ?_
    simp only [thenQ,blockQ,if_true]
    refine hK _ _ ?_;clear hK hK2 K2 K
    obtain rfl : i = N.length:=by omega
    rw [List.take_length] at hx
    refine wS fun K hK=>?_
    simp only [↓DN,Qa,Qb,Qc,Qd,Qe,Qf,Qg,Qh,reduceCtorEq,↓reduceIte,Na,Nb,Nc,Nk,Nf,Ng,Nh,Za,Zb,Zc,TT,g3]
    refine hK _ _ ?_;clear hK K
    refine awp_ret ?_
    try simp only [thenQ,blockQ]
    simp only [retQ,AEnds,aresL,ares,List.toList_toArray,↓upd_same]; try simp only [UP,DF,Nc,↓reduceIte,DT]
    exact ⟨_,_,hx.weak.trans (AV.weak_slc (grps_weak N)),AS.le.refl _,rfl,hle⟩
end Go.Proofs.Ytfbbckndpkmfcaa
namespace Go.Proofs.Ytfbbckndpkmfcaa
open Go Go.AM Go.Proofs
variable {Γ : Nat→List AV}
theorem ledAddErr_calls {s0 s : AS} {p : Nat} {L : LedV} {gs : List GEnt} {gt ge b1 b2 : Nat} (h : LedS s0 s p L gs gt ge b1 b2) (hi : L.inv) (r : Rec) (hv : checkV L r≠0) :
  ACalls Try.prog Γ 10 [.ptr p 0,.agg r.cells] s (fun v s'=>v = .v (.int .i64 (checkV L r))∧s' = s):=by
 refine acalls_body Try.func10 rfl Try.ntmps10 Try.results10 (by simp) ?_
 have hck:=ledCheck_calls (Γ:=Γ) h hi r
 generalize checkV L r = V at *
 obtain ⟨rk,rg,re,rt,rb,ry,rtr,rsc,rw'⟩:=r
 unfold Rec.cells at *
 simp only at *
 unfold bytesV at *
 refine awp_reg_frz 3 (by decide) ?_
 intro K hK
 simp only [↓DM,pval,DX,Nz,↓DN,Qa,Qb,Qc,Qd,Qe,Qf,Qg,Qh,reduceCtorEq,↓reduceIte,Na,Nb,Nc,Nk,Nf,Ng,Nh,Za,Zb,Zc,TT]
 intro o3 q3
 refine hK _ _ o3 _ (by simp only [upd,Nc,↓reduceIte]) q3 ?_
 clear hK K q3
 refine wK fun K hK=>?_
 refine wS fun K hK=>?_
 simp only [↓DN,Qa,Qb,Qc,Qd,Qe,Qf,Qg,Qh,reduceCtorEq,↓reduceIte,Na,Nb,Nc,Nk,Nf,Ng,Nh,Za,Zb,Zc,TT]
 refine acallk hck ?_
 rintro r s1 ⟨rfl,rfl⟩
 simp only [↓DM,pval,DX,Nz,↓DN,Qa,Qb,Qc,Qd,Qe,Qf,Qg,Qh,reduceCtorEq,↓reduceIte,Na,Nb,Nc,Nk,Nf,Ng,Nh,Za,Zb,Zc,TT]
 refine hK _ _ ?_;clear hK K
 refine wS fun K hK=>?_
 simp only [↓DN,Qa,Qb,Qc,Qd,Qe,Qf,Qg,Qh,reduceCtorEq,↓reduceIte,Na,Nb,Nc,Nk,Nf,Ng,Nh,Za,Zb,Zc,TT,int_bne_true hv]
 refine hK _ _ ?_;clear hK K
 refine wC fun X Y hX hY=>?_
 simp only [UP,DF,Nc,↓reduceIte,DB]
 refine hX ?_;clear hX hY X Y
 refine wS fun K hK=>?_
 simp only [↓DN,Qa,Qb,Qc,Qd,Qe,Qf,Qg,Qh,reduceCtorEq,↓reduceIte,Na,Nb,Nc,Nk,Nf,Ng,Nh,Za,Zb,Zc,TT]
 refine hK _ _ ?_;clear hK K
 refine awp_ret ?_
 try simp only [thenQ,blockQ]
 simp only [retQ,AEnds,aresL,ares,List.toList_toArray,↓upd_same]; try simp only [UP,DF,Nc,↓reduceIte,DT]
 exact ⟨_,_,AV.weak.refl _,AS.le.refl _,rfl,rfl⟩
def r28 : Rec:=⟨2,[103],0,0,0,[],List.replicate 32 0,List.replicate 32 0,List.replicate 48 0⟩
theorem r28_check : checkV LedV.new r28 = 41:=by decide +kernel
theorem new_inv : LedV.new.inv:=fun q hq=>by cases hq
theorem rep1 (x : AV) : List.replicate 1 x = [x]:=rfl
theorem awake28_calls (s : AS) : ACalls Try.prog Γ 5 [] s (fun r s'=>r = .v (.bool true)∧s' = s):=by
 refine tidyL (Q:=fun r=>r = .v (.bool true)) ?_
 refine acalls_body Try.func5 rfl Try.ntmps5 Try.results5 (by simp) ?_
 have hc : r28.cells = [.v (.int .i64 2),.sl 1 1 [.v (.int .u8 103)] .any,.v (.int .i64 0),.v (.int .i64 0),.v (.int .i64 0),.sl 1 0 [] .any,.sl 1 32 (List.replicate 32 (.v (.int .u8 0))) .any,.sl 1 32 (List.replicate 32 (.v (.int .u8 0))) .any,.sl 1 48 (List.replicate 48 (.v (.int .u8 0))) .any]:=by
  simp only [Rec.cells,r28,bytesV,List.length_replicate,List.map_replicate,List.length_cons,List.length_nil,List.map_cons,List.map_nil]
  rfl
 refine wS fun K hK=>?_
 simp only [↓DN,Qa,Qb,Qc,Qd,Qe,Qf,Qg,Qh,reduceCtorEq,↓reduceIte,Na,Nb,Nc,Nk,Nf,Ng,Nh,Za,Zb,Zc,TT]
 refine hK _ _ ?_;clear hK K
 refine wS fun K hK=>?_
 simp only [↓DN,Qa,Qb,Qc,Qd,Qe,Qf,Qg,Qh,reduceCtorEq,↓reduceIte,Na,Nb,Nc,Nk,Nf,Ng,Nh,Za,Zb,Zc,TT]
 refine acallk (ledNew_calls s) ?_
 rintro r s1 ⟨p,b1,b2,rfl,hL⟩
 have hadd:=ledAddErr_calls (Γ:=Γ) hL new_inv r28 (by rw [r28_check]; decide)
 rw [r28_check,hc] at hadd
 have hcnt:=ledCount_calls (Γ:=Γ) hL
 have e0 : LedV.new.count = 0:=rfl
 rw [e0] at hcnt
 have hle:=hL.le
 generalize hZ1 : List.replicate 32 (AV.v (.int .u8 0)) = Z1 at *
 generalize hZ2 : List.replicate 48 (AV.v (.int .u8 0)) = Z2 at *
 simp only [↓DM,pval,DX,Nz,↓DN,Qa,Qb,Qc,Qd,Qe,Qf,Qg,Qh,reduceCtorEq,↓reduceIte,Na,Nb,Nc,Nk,Nf,Ng,Nh,Za,Zb,Zc,TT]
 refine hK _ _ ?_;clear hK K
 refine awp_drf_seq T.mixed [10,15] [(6,32),(7,32),(8,48)] [] [] (by kernel_rfl) ?_
 intro K hK
 simp only [↓AXz_nil,↓AXz_cons,↓AGiv_call,glook_nil,glook_cons,glookN_nil,glookN_cons,noughtV,pval,DX,Nat.reduceBEq,List.toList_toArray,List.map_cons,List.map_nil,aeval,↓DN,Qa,Qb,Qc,Qd,Qe,Qf,Qg,Qh,reduceCtorEq,↓reduceIte,Na,Nb,Nc,Nk,Nf,Ng,Nh,Za,Zb,Zc,TT,gokB,rep1,hZ1,hZ2]
 refine acallk (ACalls.weaks (.cons (AV.weak.refl _) (.cons (AV.weak_agg (.cons (AV.weak.refl _) (.cons AV.weak_any (.cons (AV.weak.refl _) (.cons (AV.weak.refl _) (.cons (AV.weak.refl _) (.cons AV.weak_nil (.cons AV.weak_any (.cons AV.weak_any (.cons AV.weak_any .nil)))))))))) .nil)) hadd) ?_
 rintro r s2 ⟨rfl,rfl⟩
 simp only [↓AXq_nil,↓AXq_cons,pval,↓AXz_nil,↓AXz_cons,↓AGiv_call,glook_nil,glook_cons,glookN_nil,glookN_cons,noughtV,pval,DX,Nat.reduceBEq,List.toList_toArray,List.map_cons,List.map_nil,aeval,DX,Nat.reduceBEq,↓DN,Qa,Qb,Qc,Qd,Qe,Qf,Qg,Qh,reduceCtorEq,↓reduceIte,Na,Nb,Nc,Nk,Nf,Ng,Nh,Za,Zb,Zc,TT,gokB,show ((41 : Int) == 41) = true from rfl]
 refine acallk hcnt ?_
 rintro r s3 ⟨rfl,rfl⟩
 simp only [↓AXq_nil,↓AXq_cons,pval,↓AXz_nil,↓AXz_cons,↓AGiv_call,glook_nil,glook_cons,glookN_nil,glookN_cons,noughtV,pval,DX,Nat.reduceBEq,List.toList_toArray,List.map_cons,List.map_nil,aeval,DX,Nat.reduceBEq,↓DN,Qa,Qb,Qc,Qd,Qe,Qf,Qg,Qh,reduceCtorEq,↓reduceIte,Na,Nb,Nc,Nk,Nf,Ng,Nh,Za,Zb,Zc,TT,gokB,show ((0 : Int) == 0) = true from rfl]
 refine hK _ _ ?_;clear hK K
 refine awp_ret ?_
 try simp only [thenQ,blockQ]
 simp only [retQ,AEnds,aresL,ares,List.toList_toArray,↓upd_same]; try simp only [UP,DF,Nc,↓reduceIte,DT]
 exact ⟨_,_,AV.weak.refl _,AS.le.refl _,rfl,hle⟩
def recsV (l : List Rec) : AV:=.sl 9 l.length (rowC Rec.cells l) .any
end Go.Proofs.Ytfbbckndpkmfcaa
namespace Go.AM
open Go Go.RowKit Go.Shelf Go.Proofs
variable {P : Program} {Γ : Nat→List AV} {G : Gh} {s : AS} {w : World} {N : Nat}
def intW (i : Int) : Value:=.int .i64 i
theorem VRels.ints {G : Gh} (l : List Int) : VRels G (l.map intC) (l.map intW):=by
  induction l with
  | nil=>simp [VRels]
  | cons i l ih=>simp only [List.map_cons,VRels]; exact ⟨intW i,_,rfl,by simp [intC,intW,VRel],ih⟩
theorem VRels.ints_eq {G : Gh} : ∀ {l : List Int} {vs : List Value},VRels G (l.map intC) vs→vs = l.map intW
  | [],vs,h=>by simpa [VRels] using h
  | i :: l,vs,h=>by
    simp only [List.map_cons,VRels] at h
    obtain ⟨u,us,rfl,h1,h2⟩:=h
    rw [VRels.ints_eq h2]
    simp only [intC,VRel] at h1
    rw [h1]
    rfl
end Go.AM
namespace Go.AM
open Go
theorem some_neO {s : AS} {p o : Nat} {cs : List AV} (h : s.objs p = some cs) (k : s.objs o = none) : p≠o:=by
  rintro rfl
  rw [h] at k
  cases k
structure Rd4 (s s1 : AS) (p o2 o3 o4 : Nat) (ce z cs ds : List AV) : Prop where
  rd : RdS s s1 p o2 o3 ce z cs
  obj : s1.objs o4 = some ds
  n4 : s.objs o4 = none
  p4 : p≠o4
  d2 : o2≠o4
  d3 : o3≠o4
theorem RdS.setNew {s s1 : AS} {p o2 o3 o4 : Nat} {ce z cs : List AV} (h : RdS s s1 p o2 o3 ce z cs) (h4 : s1.objs o4 = none) (ds : List AV) : Rd4 s (s1.set o4 ds) p o2 o3 o4 ce z cs ds:=by
  have hp : p≠o4:=by rintro rfl; rw [h.eye] at h4; cases h4
  have h2 : o2≠o4:=by rintro rfl; rw [h.res] at h4; cases h4
  have h3 : o3≠o4:=by rintro rfl; rw [h.var] at h4; cases h4
  have hn : (s.drop p).objs o4 = none:=by
    cases e : (s.drop p).objs o4 with
    | none=>rfl
    | some x=>have:=h.le.objs _ _ e; rw [h4] at this; cases this
  have hn' : s.objs o4 = none:=by simpa [AS.drop,upd,hp.symm] using hn
  refine ⟨⟨AS.le_set h.le hn _,?_,?_,?_,h.n2,h.n3,h.p2,h.p3,h.d⟩,AS.set_objs_same _ _ _,hn',hp,h2,h3⟩
  · rw [AS.set_objs_ne _ hp]; exact h.eye
  · rw [AS.set_objs_ne _ h2]; exact h.res
  · rw [AS.set_objs_ne _ h3]; exact h.var
theorem Rd4.gain {s s1 : AS} {p o2 o3 o4 : Nat} {ce z cs ds : List AV} (h : Rd4 s s1 p o2 o3 o4 ce z cs ds) {t : Nat} (ht : s.own t = none) (e : Nat) : Rd4 s (s1.gain t e) p o2 o3 o4 ce z cs ds :=
  ⟨h.rd.gain ht e,h.obj,h.n4,h.p4,h.d2,h.d3⟩
theorem own_none_le {a b : AS} (h : a.le b) {t : Nat} (k : b.own t = none) : a.own t = none:=by
  cases e : a.own t with
  | none=>rfl
  | some x=>rw [h.own t x e] at k; cases k
theorem RdS.fresh {s s1 : AS} {p o2 o3 o5 : Nat} {ce z cs : List AV} (h : RdS s s1 p o2 o3 ce z cs) (h5 : s1.objs o5 = none) (ds : List AV) : RdS s (s1.set o5 ds) p o2 o3 ce z cs:=(h.setNew h5 ds).rd
theorem Rd4.fresh {s s1 : AS} {p o2 o3 o4 o5 : Nat} {ce z cs ds : List AV} (h : Rd4 s s1 p o2 o3 o4 ce z cs ds) (h5 : s1.objs o5 = none) (es : List AV) : Rd4 s (s1.set o5 es) p o2 o3 o4 ce z cs ds :=
  ⟨h.rd.fresh h5 es,by rw [AS.set_objs_ne _ (some_neO h.obj h5)]; exact h.obj,h.n4,h.p4,h.d2,h.d3⟩
end Go.AM
namespace Go.AM
open Go
def lvT : List Nat:=[0,1,0,2,0,1,0,3,0,1,0,2,0,1,0,4,0,1,0,2,0,1,0,3,0,1,0,2,0,1,0,5,0,1,0,2,0,1,0,3,0,1,0,2,0,1,0,4,0,1,0,2,0,1,0,3,0,1,0,2,0,1,0]
def lv (n : Nat) : Nat:=lvT.getD n 0
def hf (n : Nat) : Nat:=2 ^ lv n / 2
def lo (n : Nat) : Nat:=(n - (2 ^ lv n - 1)) / 2
def hi (n : Nat) : Nat:=(n + (2 ^ lv n - 1)) / 2
def Fit (n : Nat) : Prop:=n = 1∨n = 2∨n = 4∨n = 8∨n = 16∨n = 32
instance (n : Nat) : Decidable (Fit n):=by unfold Fit; infer_instance
theorem Fit.le {n : Nat} (h : Fit n) : 1≤n∧n≤32:=by rcases h with h | h | h | h | h | h <;> omega
def fitI (x : Int) : Prop:=0≤x∧Fit x.toNat
instance (x : Int) : Decidable (fitI x):=by unfold fitI; infer_instance
def undI (x : Int) : Int × Int:=if 0≤x∧x < 63 then ((lo x.toNat : Int),(hi x.toNat : Int)) else (0,-1)
end Go.AM
namespace Go.AM
open Go
theorem eye_succM (i : Nat) (h : i < 9223372036854775807) : iadd .i64 (i : Int) 1 = ((i + 1 : Nat) : Int):=by
  rw [iadd_i64 (by omega)]; omega
end Go.AM
namespace Go.AM
open Go
def treeV (t : List NodeV) : AV:=.sl 5 t.length (rowC NodeV.cells t) .any
def TreeW (t : List NodeV) : Prop:=t.length≤2 ^ 61∧∀ n ∈ t,n.unm.length≤2 ^ 61∧n.key < 2 ^ 64
def nd (t : List NodeV) (i : Nat) : NodeV:=t.getD i NodeV.nought
theorem nd_get {t : List NodeV} {i : Nat} (h : i < t.length) : nd t i = t[i]:=by simp [nd,List.getD,h]
theorem TreeW.nd {t : List NodeV} (h : TreeW t) (i : Nat) : (nd t i).unm.length≤2 ^ 61∧(nd t i).key < 2 ^ 64:=by
  by_cases hi : i < t.length
  · rw [nd_get hi]; exact h.2 _ (List.getElem_mem hi)
  · have : Go.AM.nd t i = NodeV.nought:=by simp [Go.AM.nd,List.getD,show t.length≤i by omega]
    rw [this]
    exact ⟨by decide,by decide⟩
def lvs (t : List NodeV) : Nat:=if Fit ((t.length + 1) / 2)∧t.length = 2 * ((t.length + 1) / 2) - 1 then (t.length + 1) / 2 else 0
theorem lvs_zero_or {t : List NodeV} : lvs t = 0∨(Fit (lvs t)∧t.length = 2 * lvs t - 1):=by
  unfold lvs
  split
  · rename_i h; exact .inr h
  · exact .inl rfl
def memI (t : List NodeV) (i : Int) : Prop:=0≤i∧i < (lvs t : Int)∧(nd t (2 * i.toNat)).kind = 1
instance (t : List NodeV) (i : Int) : Decidable (memI t i):=by unfold memI; infer_instance
def memR (t : List NodeV) (i : Int) : Prop:=0≤i∧2 * i < (t.length : Int)∧(nd t (2 * i.toNat)).kind = 1
instance (t : List NodeV) (i : Int) : Decidable (memR t i):=by unfold memR; infer_instance
def cntN (P : Int→Prop) [DecidablePred P] (a : Nat) : Nat→Nat
  | 0=>0
  | k + 1=>cntN P a k + if P ((a + k : Nat) : Int) then 1 else 0
def hlf (t : List NodeV) : Nat:=(t.length + 1) / 2
def fitsT (t : List NodeV) (i : Nat) : Prop :=
  (nd t i).right∧((nd t i).kind = 0∨((nd t i).kind = 1↔i % 2 = 0))∧∀ u ∈ (nd t i).unm,(undI (i : Int)).1≤u∧u≤(undI (i : Int)).2∧memI t u
instance (t : List NodeV) (i : Nat) : Decidable (fitsT t i):=by unfold fitsT; infer_instance
def goodAt (t : List NodeV) (i : Nat) : Prop:=fitsT t i∧(i % 2 = 0→memI t ((i / 2 : Nat) : Int)→∀ j,j < hlf t→i / 2 < j→¬ (memI t (j : Int)∧(nd t (2 * j)).name = (nd t i).name))
def rightT (t : List NodeV) : Prop:=lvs t≠0∧(∀ i,i < t.length→goodAt t i)∧(lvs t = 1∨0 < cntN (memI t) (lvs t / 2) (lvs t - lvs t / 2))
instance (t : List NodeV) (i : Nat) : Decidable (goodAt t i):=by unfold goodAt; infer_instance
instance (t : List NodeV) : Decidable (rightT t):=by unfold rightT; infer_instance
end Go.AM
namespace Go.AM
open Go
structure ListedV where
  leaf : Int
  name : List UInt8
  deriving DecidableEq
def ListedV.cells (x : ListedV) : List AV:=[.v (.int .i64 x.leaf),bytesV x.name .any]
theorem rightT.hlf {t : List NodeV} (h : rightT t) : hlf t = lvs t:=by
  have h1:=(lvs_zero_or.resolve_left h.1)
  have:=h1.1.le
  unfold Go.AM.hlf
  omega
theorem rightT.len {t : List NodeV} (h : rightT t) : t.length = 2 * lvs t - 1∧Fit (lvs t):=by
  have h1:=(lvs_zero_or.resolve_left h.1)
  exact ⟨h1.2,h1.1⟩
theorem rightT.nodes {t : List NodeV} (h : rightT t) {n : NodeV} (hn : n ∈ t) : n.right:=by
  obtain ⟨i,hi,rfl⟩:=List.getElem_of_mem hn
  have:=(h.2.1 i hi).1.1
  rwa [nd_get hi] at this
theorem rightT.nd {t : List NodeV} (h : rightT t) (i : Nat) : (nd t i).right:=by
  by_cases hi : i < t.length
  · exact (h.2.1 i hi).1.1
  · have : Go.AM.nd t i = NodeV.nought:=by simp [Go.AM.nd,List.getD,show t.length≤i by omega]
    rw [this]; exact nought_right
end Go.AM
namespace Go.AM
open Go Go.RowKit
variable {P : Program} {Γ : Nat→List AV} {G : Gh} {s : AS} {w : World} {N : Nat}
def onm : AV→Option Nat
  | .osl o _ _ _ _=>some o
  | _=>none
def cellsX (p : NodeV × AV) : List AV:=[.v (.int .i64 p.1.kind),bytesV p.1.name .any,.v (.int .u64 p.1.key),bytesV p.1.parent .any,p.2]
theorem cellsX_len (p : NodeV × AV) : (cellsX p).length = 5:=rfl
theorem cells_len (n : NodeV) : n.cells.length = 5:=rfl
theorem OBuf.le {sz n : Nat} {x : AV} {cs : List AV} {s s' : AS} (h : OBuf sz s x n cs) (k : s.le s') : OBuf sz s' x n cs:=by
  rcases h with h | ⟨o,cap,rest,h1,h2,h3⟩
  · exact .inl h
  · exact .inr ⟨o,cap,rest,h1,k.objs _ _ h2,h3⟩
theorem OBuf.set_ne {sz n : Nat} {x : AV} {cs : List AV} {s : AS} {o : Nat} {ds : List AV} (h : OBuf sz s x n cs) (k : onm x≠some o) : OBuf sz (s.set o ds) x n cs:=by
  rcases h with h | ⟨o',cap,rest,rfl,h2,h3⟩
  · exact .inl h
  · exact .inr ⟨o',cap,rest,rfl,by rw [AS.set_objs_ne _ (fun e=>k (by rw [e]; rfl))]; exact h2,h3⟩
theorem OBuf.drop_ne {sz n : Nat} {x : AV} {cs : List AV} {s : AS} {o : Nat} (h : OBuf sz s x n cs) (k : onm x≠some o) : OBuf sz (s.drop o) x n cs:=by
  rcases h with h | ⟨o',cap,rest,rfl,h2,h3⟩
  · exact .inl h
  · exact .inr ⟨o',cap,rest,rfl,by rw [AS.drop_objs,upd_ne _ _ (fun e=>k (by rw [e]; rfl))]; exact h2,h3⟩
theorem OBuf.some {sz n : Nat} {x : AV} {cs : List AV} {s : AS} {o : Nat} (h : OBuf sz s x n cs) (k : onm x = some o) : ∃ ds,s.objs o = some ds:=by
  rcases h with ⟨_,_,rfl | rfl | rfl⟩ | ⟨o',cap,rest,rfl,h2,h3⟩
  · cases k
  · cases k
  · cases k
  · cases k; exact ⟨_,h2⟩
theorem empty_weak {sz : Nat} {sp : Sp} (h : sp = .full∨sp = .new) : (AV.sl sz 0 [] sp).weak (.sl sz 0 [] .any):=by
  intro G u hv
  simp only [VRel] at hv ⊢
  rcases hv with ⟨b,off,cap,vs,h1,h2,h3,h4,h5,h6⟩ | ⟨_,_,a,cap,h1,_⟩ | ⟨_,_,h1,_⟩
  · exact .inl ⟨b,off,cap,vs,h1,h2,h3,h4,h5,trivial⟩
  · exact .inr (.inl ⟨trivial,trivial,a,cap,h1,by simp⟩)
  · rcases h with rfl | rfl <;> cases h1
structure XsOk (s0 s : AS) (T : List (NodeV × AV)) : Prop where
  buf : ∀ p ∈ T,OBuf 1 s p.2 p.1.unm.length (p.1.unm.map intC)
  new : ∀ p ∈ T,∀ o,onm p.2 = some o→s0.objs o = none
  sep : T.Pairwise fun p q=>∀ o,onm p.2 = some o→onm q.2≠some o
structure TreeO (s0 s : AS) (X : AV) (T : List (NodeV × AV)) : Prop where
  xs : XsOk s0 s T
  le : s0.le s
  row : OBuf 5 s X T.length (rowC cellsX T)
  newR : ∀ O,onm X = some O→s0.objs O = none
  sepR : ∀ O,onm X = some O→∀ p ∈ T,onm p.2≠some O
theorem AS.le_none {s s' : AS} (h : s.le s') {o : Nat} (k : s'.objs o = none) : s.objs o = none:=by
  cases hs : s.objs o with
  | none=>rfl
  | some cs=>rw [h.objs _ _ hs] at k; cases k
theorem TreeO.nil (s : AS) : TreeO s s nilS [] :=
  ⟨⟨fun p hp=>absurd hp (List.not_mem_nil),fun p hp=>absurd hp (List.not_mem_nil),.nil⟩,.refl s,.inl ⟨rfl,rfl,.inl rfl⟩,(fun O h=>by cases h),(fun O h=>by cases h)⟩
theorem TreeO.push {s0 s : AS} {X : AV} {T : List (NodeV × AV)} {p : NodeV × AV} {ob cap : Nat} {rest : List AV} (h : TreeO s0 s X T) (hb : OBuf 1 s p.2 p.1.unm.length (p.1.unm.map intC))
    (h1 : ∀ o,onm p.2 = some o→s0.objs o = none∧(∀ q ∈ T,onm q.2≠some o)∧onm X≠some o) (h2 : s.objs ob = none∨∃ cap0,X = .osl ob 0 5 T.length cap0) (h3 : T.length + 1≤cap) (h4 : cap < 2 ^ 63) (h5 : rest.length = (cap - (T.length + 1)) * 5) :
    TreeO s0 (s.set ob (rowC cellsX T ++ cellsX p ++ rest)) (.osl ob 0 5 (T.length + 1) cap) (T ++ [p]):=by
  have hob0 : s0.objs ob = none:=by
    rcases h2 with h2 | ⟨cap0,h2⟩
    · exact AS.le_none h.le h2
    · exact h.newR ob (by rw [h2]; rfl)
  have hne : ∀ q ∈ T ++ [p],onm q.2≠some ob:=by
    intro q hq e
    rw [List.mem_append,List.mem_singleton] at hq
    rcases h2 with h2 | ⟨cap0,h2⟩
    · have : ∃ ds,s.objs ob = some ds:=by
        rcases hq with hq | rfl
        · exact (h.xs.buf q hq).some e
        · exact hb.some e
      rw [h2] at this
      obtain ⟨ds,hd⟩:=this
      cases hd
    · have hX : onm X = some ob:=by rw [h2]; rfl
      rcases hq with hq | rfl
      · exact h.sepR ob hX q hq e
      · exact (h1 ob e).2.2 hX
  refine ⟨⟨fun q hq=>?_,fun q hq o ho=>?_,?_⟩,AS.le_set h.le hob0 _,.inr ⟨ob,cap,rest,by rw [List.length_append]; rfl,by rw [AS.set_objs_same,row_snoc],?_,by rw [List.length_append]; exact h5,by rw [List.length_append]; exact h3,h4⟩,fun O hO=>?_,fun O hO q hq=>?_⟩
  · have hq':=hq
    rw [List.mem_append,List.mem_singleton] at hq
    rcases hq with hq | rfl
    · exact (h.xs.buf q hq).set_ne (hne q hq')
    · exact hb.set_ne (hne q hq')
  · rw [List.mem_append,List.mem_singleton] at hq
    rcases hq with hq | rfl
    · exact h.xs.new q hq o ho
    · exact (h1 o ho).1
  · rw [List.pairwise_append]
    refine ⟨h.xs.sep,List.pairwise_singleton _ _,fun a ha b hb' o ho=>?_⟩
    rw [List.mem_singleton] at hb'
    subst hb'
    intro e
    exact (h1 o e).2.1 a ha ho
  · exact row_len cellsX_len _
  · cases hO; exact hob0
  · cases hO; exact hne q hq
theorem settle_xs {s0 : AS} {O : Nat} {rest : List AV} (hO0 : s0.objs O = none) (x : AV) : ∀ (B : List (NodeV × AV)) (A : List NodeV) (s : AS),XsOk s0 s B→s0.le s→(∀ p ∈ B,onm p.2≠some O)→s.objs O = some (rowC NodeV.cells A ++ rowC cellsX B ++ rest) →
    ∃ s',Settles Γ s x s' x∧s'.objs O = some (rowC NodeV.cells (A ++ B.map (·.1)) ++ rest)∧s0.le s':=by
  intro B
  induction B with
  | nil =>
    intro A s _ hle _ hO
    refine ⟨s,.refl x,?_,hle⟩
    simpa [rowC] using hO
  | cons p B ih =>
    intro A s hx hle hne hO
    have hsplit : rowC NodeV.cells A ++ rowC cellsX (p :: B) ++ rest = (rowC NodeV.cells A ++ [.v (.int .i64 p.1.kind),bytesV p.1.name .any,.v (.int .u64 p.1.key),bytesV p.1.parent .any]) ++ p.2 :: (rowC cellsX B ++ rest):=by
      simp [rowC,cellsX]
    rw [hsplit] at hO
    have hjoin : (rowC NodeV.cells A ++ [.v (.int .i64 p.1.kind),bytesV p.1.name .any,.v (.int .u64 p.1.key),bytesV p.1.parent .any]) ++ intsV p.1.unm .any :: (rowC cellsX B ++ rest) = rowC NodeV.cells (A ++ [p.1]) ++ rowC cellsX B ++ rest:=by
      simp [rowC,NodeV.cells]
    have hsep:=List.pairwise_cons.1 hx.sep
    have hp : p ∈ p :: B:=List.mem_cons_self
    have hrest : ∀ s' : AS,(∀ q ∈ B,OBuf 1 s' q.2 q.1.unm.length (q.1.unm.map intC))→XsOk s0 s' B:=fun s' h=>⟨h,fun q hq=>hx.new q (List.mem_cons_of_mem _ hq),hsep.2⟩
    rcases hx.buf p hp with ⟨h0,hl0,hv⟩ | ⟨o,cap,rs,hv,ho,hcl,hrl,hnc,h63⟩
    · have hw : p.2.weak (intsV p.1.unm .any):=by
        have hu : p.1.unm = []:=List.eq_nil_of_length_eq_zero h0
        rw [hu]
        rcases hv with hv | hv | hv
        · rw [hv]; exact AV.weak_nil
        · rw [hv]; exact empty_weak (.inl rfl)
        · rw [hv]; exact empty_weak (.inr rfl)
      have h1:=Settles.cells (Γ:=Γ) x hO hw
      rw [hjoin] at h1
      obtain ⟨s',k1,k2,k3⟩:=ih (A ++ [p.1]) _ (hrest _ fun q hq=>(hx.buf q (List.mem_cons_of_mem _ hq)).set_ne (hne q (List.mem_cons_of_mem _ hq))) (AS.le_set hle hO0 _) (fun q hq=>hne q (List.mem_cons_of_mem _ hq)) (AS.set_objs_same _ _ _)
      refine ⟨s',h1.trans k1,?_,k3⟩
      simpa using k2
    · have hpo : onm p.2 = some o:=by rw [hv]; rfl
      have hOo : O≠o:=fun e=>hne p hp (by rw [hpo,e])
      rw [hv] at hO
      have h1:=Settles.inner (Γ:=Γ) x hO ho hOo hcl
      have e : (AV.sl 1 p.1.unm.length (p.1.unm.map intC) .any) = intsV p.1.unm .any:=rfl
      rw [e,hjoin] at h1
      obtain ⟨s',k1,k2,k3⟩:=ih (A ++ [p.1]) _ (hrest _ fun q hq=>((hx.buf q (List.mem_cons_of_mem _ hq)).drop_ne (hsep.1 q hq o hpo)).set_ne (hne q (List.mem_cons_of_mem _ hq))) (AS.le_set (AS.le_drop hle (hx.new p hp o hpo)) hO0 _) (fun q hq=>hne q (List.mem_cons_of_mem _ hq)) (AS.set_objs_same _ _ _)
      refine ⟨s',h1.trans k1,?_,k3⟩
      simpa using k2
theorem TreeO.settle {s0 s : AS} {X : AV} {T : List (NodeV × AV)} (h : TreeO s0 s X T) : ∃ s',Settles Γ s X s' (treeV (T.map (·.1)))∧s0.le s':=by
  rcases h.row with ⟨h0,hl0,hv⟩ | ⟨O,cap,rest,hv,hO,hcl,hrl,hnc,h63⟩
  · have hT : T = []:=List.eq_nil_of_length_eq_zero h0
    subst hT
    refine ⟨s,Settles.weak ?_,h.le⟩
    rcases hv with hv | hv | hv
    · rw [hv]; exact AV.weak_nil
    · rw [hv]; exact empty_weak (.inl rfl)
    · rw [hv]; exact empty_weak (.inr rfl)
  · have hX : onm X = some O:=by rw [hv]; rfl
    obtain ⟨s1,k1,k2,k3⟩:=settle_xs (Γ:=Γ) (h.newR O hX) X T [] s h.xs h.le (h.sepR O hX) (by simpa [rowC] using hO)
    rw [List.nil_append] at k2
    have k4:=Settles.outer (Γ:=Γ) (n:=T.length) (sz:=5) (cap:=cap) k2 (by rw [row_len cells_len,List.length_map])
    rw [hv] at k1 ⊢
    refine ⟨_,k1.trans ?_,AS.le_drop k3 (h.newR O hX)⟩
    unfold treeV
    rw [List.length_map]
    exact k4
end Go.AM
namespace Go.AM
open Go Go.RowKit Go.Shelf Go.Proofs
variable {P : Program} {Γ : Nat→List AV} {G : Gh} {s : AS} {w : World} {N : Nat}
theorem SRel.drewN (h : SRel Γ G s w) : ∀ q,SRel Γ G s (w.drewN q)
  | 0=>h
  | q + 1=>(SRel.drewN h q).drew
end Go.AM
namespace Go.AM
open Go Go.RowKit Go.Shelf Go.Proofs Go.Sort
variable {P : Program} {Γ : Nat→List AV} {G : Gh} {s : AS} {w : World} {N : Nat}
theorem SRel.grow (h : SRel Γ G s w) (os : Array Obj) : SRel Γ G s (Go.Sort.grow w os):=by
  refine h.ext ?_
  exact (Below.refl _ _).grown (row:=none) ⟨rfl,rfl,rfl,by simp,fun i hi _=>by simp [Go.Sort.grow,Array.getElem?_append,hi]⟩ (Nat.le_refl _) (fun i e=>by cases e)
theorem sort_calls {ρ : Ren} (L : Lays.n189 P ρ) {o cap : Nat} {l : List Int} {rest : List AV} (hl : l.length < 4611686018427387904) (ho : s.objs o = some (l.map intC ++ rest)) :
    ACalls P Γ (ρ.f 189) [.osl o 0 1 l.length cap] s (fun r s'=>r = .v (.tuple #[])∧s' = s.set o ((l.mergeSort fun x y=>decide (x≤y)).map intC ++ rest)):=by
  intro G w vs hsr hv
  simp only [VRels] at hv
  obtain ⟨u,us,rfl,hx,rfl⟩:=hv
  simp only [VRel] at hx
  obtain ⟨b,hb1,rfl,hn⟩:=hx
  obtain ⟨b',vs,q1,q2,q3,q4⟩:=hsr.objs o _ ho
  rw [hb1] at q1
  cases q1
  have hvt:=q2.take (l.map intC).length
  rw [List.take_left] at hvt
  have hvt:=VRels.ints_eq hvt
  have hH : Holds (Value.int .i64) w b 0 l.toArray:=by
    intro j hj
    have hj' : j < l.length:=by simpa using hj
    rw [Nat.zero_add]
    have : vs[j]? = some (Value.int .i64 l.toArray[j]!):=by
      have h1 : (vs.take (l.map intC).length)[j]? = some (intW l[j]):=by rw [hvt]; simp [hj']
      rw [List.getElem?_take] at h1
      split at h1
      · rw [h1]; simp [intW,hj']
      · cases h1
    exact ⟨(q4 j _ this).1,(q4 j _ this).2.1⟩
  refine (calls_of_every_depth fun D=>AnyS.slices_Sort_int_in L D b 0 cap l w hH (hsr.objLt o b hb1) hl).mono ?_
  rintro e w' ⟨rfl,n,os,rfl⟩
  rw [Go.Lib.putRow_eq_setCells (Value.int .i64) w b 0 l.toArray _ n hH (by simp)]
  have hml : (l.mergeSort fun x y=>decide (x≤y)).length = l.length:=by simp
  generalize (l.mergeSort fun x y=>decide (x≤y)) = m at hml ⊢
  obtain ⟨_,_,f3⟩:=setCells_obj (hsr.drewN n) ho hb1 (off:=0) (ds:=m.map intC) (us:=m.map intW) (by simp; omega) (VRels.ints _)
  have ha:=asetAll_mid (m.map intC) [] (l.map intC ++ rest) (by simp; omega)
  simp only [List.nil_append,List.length_nil,List.length_map,hml] at ha
  rw [show (l.map intC ++ rest).drop l.length = rest by rw [List.drop_append_of_le_length (by simp)]; simp] at ha
  rw [ha] at f3
  exact ⟨G,.v (.tuple #[]),_,_,rfl,.refl G,SRel.grow f3 os,by simp [VRel],rfl,rfl⟩
end Go.AM
namespace Go.Proofs.Ytfbbckndpkmfcaa
open Go Go.AM Go.Proofs
variable {Γ : Nat→List AV}
def renQ : Go.Shelf.Ren:=⟨fun | 125=>65 | 128=>77 | 129=>78 | 189=>57 | 215=>84 | 216=>74 | 257=>64 | 294=>68 | 295=>69 | 296=>70 | 297=>71 | 298=>72 | 299=>73 | 300=>75 | 301=>76 | 328=>79 | 329=>80 | 330=>81 | 331=>82 | 332=>83 | 343=>85 | n=>n,fun | 28=>64 | 46=>105 | 51=>115 | 53=>86 | 131=>112 | 182=>107 | 183=>108 | 218=>117 | 222=>120 | 228=>122 | 229=>123 | n=>n,fun n=>n⟩
theorem laysQ : Lays.n189 Try.prog renQ where
  mixed:=by kernel_rfl
  f125:=(Try.func65).trans (congrArg some (by kernel_rfl))
  f128:=(Try.func77).trans (congrArg some (by kernel_rfl))
  f129:=(Try.func78).trans (congrArg some (by kernel_rfl))
  f189:=(Try.func57).trans (congrArg some (by kernel_rfl))
  f215:=(Try.func84).trans (congrArg some (by kernel_rfl))
  f216:=(Try.func74).trans (congrArg some (by kernel_rfl))
  f257:=(Try.func64).trans (congrArg some (by kernel_rfl))
  f294:=(Try.func68).trans (congrArg some (by kernel_rfl))
  f295:=(Try.func69).trans (congrArg some (by kernel_rfl))
  f296:=(Try.func70).trans (congrArg some (by kernel_rfl))
  f297:=(Try.func71).trans (congrArg some (by kernel_rfl))
  f298:=(Try.func72).trans (congrArg some (by kernel_rfl))
  f299:=(Try.func73).trans (congrArg some (by kernel_rfl))
  f300:=(Try.func75).trans (congrArg some (by kernel_rfl))
  f301:=(Try.func76).trans (congrArg some (by kernel_rfl))
  f328:=(Try.func79).trans (congrArg some (by kernel_rfl))
  f329:=(Try.func80).trans (congrArg some (by kernel_rfl))
  f330:=(Try.func81).trans (congrArg some (by kernel_rfl))
  f331:=(Try.func82).trans (congrArg some (by kernel_rfl))
  f332:=(Try.func83).trans (congrArg some (by kernel_rfl))
  f343:=(Try.func85).trans (congrArg some (by kernel_rfl))
  t0:=Try.underlying0
  a0:=Try.isAgg0
  z0:=Try.sizeOf0
  v0:=Try.zeroValue0
  t3:=Try.underlying3
  a3:=Try.isAgg3
  z3:=Try.sizeOf3
  v3:=Try.zeroValue3
  t4:=Try.underlying4
  a4:=Try.isAgg4
  z4:=Try.sizeOf4
  v4:=Try.zeroValue4
  t5:=Try.underlying5
  a5:=Try.isAgg5
  z5:=Try.sizeOf5
  v5:=Try.zeroValue5
  t9:=Try.underlying9
  a9:=Try.isAgg9
  z9:=Try.sizeOf9
  v9:=Try.zeroValue9
  t28:=Try.underlying64
  a28:=Try.isAgg64
  z28:=Try.sizeOf64
  v28:=Try.zeroValue64
  t46:=Try.underlying105
  a46:=Try.isAgg105
  z46:=Try.sizeOf105
  v46:=Try.zeroValue105
  t51:=Try.underlying115
  a51:=Try.isAgg115
  z51:=Try.sizeOf115
  v51:=Try.zeroValue115
  t53:=Try.underlying86
  a53:=Try.isAgg86
  z53:=Try.sizeOf86
  v53:=Try.zeroValue86
  t131:=Try.underlying112
  a131:=Try.isAgg112
  z131:=Try.sizeOf112
  v131:=Try.zeroValue112
  t182:=Try.underlying107
  a182:=Try.isAgg107
  z182:=Try.sizeOf107
  v182:=Try.zeroValue107
  t183:=Try.underlying108
  a183:=Try.isAgg108
  z183:=Try.sizeOf108
  v183:=Try.zeroValue108
  t218:=Try.underlying117
  a218:=Try.isAgg117
  z218:=Try.sizeOf117
  v218:=Try.zeroValue117
  t222:=Try.underlying120
  a222:=Try.isAgg120
  z222:=Try.sizeOf120
  v222:=Try.zeroValue120
  t228:=Try.underlying122
  a228:=Try.isAgg122
  z228:=Try.sizeOf122
  v228:=Try.zeroValue122
  t229:=Try.underlying123
  a229:=Try.isAgg123
  z229:=Try.sizeOf123
  v229:=Try.zeroValue123
theorem sort_int {o cap : Nat} {l : List Int} {rest : List AV} {s : AS} (hl : l.length < 4611686018427387904) (ho : s.objs o = some (l.map intC ++ rest)) :
    ACalls Try.prog Γ 57 [.osl o 0 1 l.length cap] s (fun r s'=>r = .v (.tuple #[])∧s' = s.set o ((l.mergeSort fun x y=>decide (x≤y)).map intC ++ rest)) :=
  sort_calls laysQ hl ho
end Go.Proofs.Ytfbbckndpkmfcaa
