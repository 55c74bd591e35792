/- Contracts of the program's functions, each walked once; the conditions stand in each theorem. -/
import Derived.Test.YtfjlmkifiihgkaaGreatDoorAMp6
import Derived.Test.YtfjlmkifiihgkaaGreatDoorW1
import Derived.Test.YtfjlmkifiihgkaaGreatDoorW10
import Derived.Test.YtfjlmkifiihgkaaGreatDoorAMp7
import Derived.Test.YtfjlmkifiihgkaaGreatDoorW9
import Derived.Test.YtfjlmkifiihgkaaGreatDoorW6
set_option linter.unusedSimpArgs false
set_option linter.unusedVariables false
open Nat renaming reduceLT → Na, reduceLeDiff → Nb, reduceEqDiff → Nc, reduceAdd → Nk, reduceMul → Nf, reducePow → Ng, reduceSub → Nh, reduceBEq → Nz
open Int renaming reduceLT → Za, reduceLE → Zb, reduceToNat → Zc
open And renaming intro → Ai
open Go.AM renaming ashift → Qa, aconv → Qb, aindexAddr → Qc, aindex → Qd, aslice → Qe, abuiltin → Qf, awp_reg_seq → wS, awp_reg_end → wE, awp_seq_k → wK, awp_cond_k → wC
open Go.AM.AV renaming cells → Qg, one → Qh
set_option maxRecDepth 100000
set_option maxHeartbeats 8000000
set_option autoImplicit false
namespace Go.Proofs.YtfjlmkifiihgkaaGreatDoor
open Go Go.AM Go.Proofs
variable {Γ : Nat→List AV}
theorem pathed_calls (c : CommitV) (hl : c.path.steps.length≤9223372036854775807) (hls : ∀ x ∈ c.path.steps,x.seals.length≤9223372036854775807) (s : AS) : ACalls Tryz.prog Γ 159 [.agg c.cells] s (fun r s'=>r = .v (.bool (decide c.pathed))∧s' = s):=by
 refine acalls_body Tryz.func159 rfl Tryz.ntmps159 Tryz.results159 (by simp) ?_
 obtain ⟨g,e,sd,ps,hp,⟨pk,pp,pst⟩,cf,mb⟩:=c
 simp only at hl hls
 unfold CommitV.cells
 have hrow:=fun i (h : i < pst.length)=>row_at (c:=StepV.cells) (k:=2) (fun _=>rfl) h
 generalize hX : rowC StepV.cells pst = X at *
 generalize hZ : rowC PropV.cells ps = Z at *
 refine awp_reg_frz 1 (by simp [dsts]) ?_
 intro K hK
 simp only [↓DM,pval,DX,Nz,↓DN,Qa,Qb,Qc,Qd,Qe,Qf,Qg,Qh,reduceCtorEq,↓reduceIte,Na,Nb,Nc,Nk,Nf,Ng,Nh,Za,Zb,Zc,TT]
 intro o ho
 refine hK _ _ o _ (by simp only [upd,Nc,↓reduceIte]) ho ?_
 clear hK K ho
 refine awp_reg_frz 3 (by simp [dsts]) ?_
 intro K hK
 simp only [↓DM,pval,DX,Nz,↓DN,Qa,Qb,Qc,Qd,Qe,Qf,Qg,Qh,reduceCtorEq,↓reduceIte,Na,Nb,Nc,Nk,Nf,Ng,Nh,Za,Zb,Zc,TT]
 intro o ho
 refine hK _ _ o _ (by simp only [upd,Nc,↓reduceIte]) ho ?_
 clear hK K ho
 refine wK fun K hK=>?_
 cases hp with
 | false =>
  refine jA ?_
  refine jE ?_
  have hno : decide (CommitV.pathed ⟨g,e,sd,ps,false,⟨pk,pp,pst⟩,cf,mb⟩) = decide (pk = 0∧pp.length = 0∧pst.length = 0) :=
   decide_eq_decide.2 ⟨fun h=>h.2 rfl,fun h=>⟨fun q=>(by cases q),fun _=>h⟩⟩
  rw [hno] at hK ⊢
  rcases ff3 ((pk : Int) == 0) ((pp.length : Int) == 0) ((pst.length : Int) == 0) with hd | hd | hd | hd
  all_goals
   refine jB @hd ?_
   refine jI ?_
   refine ⟨_,_,AV.weak.refl _,AS.le.refl _,?_,rfl⟩
   simp only [beq_iff_eq,beq_eq_false_iff_ne,ne_eq] at hd
   congr 2
   symm
   first
    | exact decide_eq_true (by omega)
    | exact decide_eq_false (by omega)
 | true =>
  have hyes : decide (CommitV.pathed ⟨g,e,sd,ps,true,⟨pk,pp,pst⟩,cf,mb⟩) = decide (PathV.right ⟨pk,pp,pst⟩) :=
   decide_eq_decide.2 ⟨fun h=>h.1 rfl,fun h=>⟨fun _=>h,fun q=>(by cases q)⟩⟩
  rw [hyes] at hK ⊢
  clear hyes
  refine jA ?_
  refine jF ?_
  refine awp_skip ?_
  refine hK _ _ ?_;clear hK K
  refine wK fun K hK=>?_
  refine jA ?_
  refine awp_block ?_
  refine awp_loop (fun E s1=>∃ i : Nat,i≤pst.length∧E 29 = .v (.int .i64 i)∧E 28 = .v (.int .i64 pst.length)∧E 27 = .sl 2 pst.length X .any∧E 3 = .rop [.v (.int .u64 pk),.sl 1 pp.length (pp.map byteV) .any,.sl 2 pst.length X .any]∧(∀ p ∈ pst.take i,p.right)∧s1 = s)
   (fun E _=>match E 29 with | .v (.int _ i)=>pst.length - i.toNat | _=>0) ?_ ?_
  ·exact ⟨0,Nat.zero_le _,by simp only [upd,↓reduceIte]; rfl,by simp only [upd,Nc,↓reduceIte],by simp only [upd,Nc,↓reduceIte],by simp only [upd,Nc,↓reduceIte],by simp,rfl⟩
  ·rintro E1 s1 ⟨i,hi,g8,g7,g6,g1,hall,rfl⟩ -
   by_cases hi' : i < pst.length
   ·refine jB (Ai @g8 (Ai @g7 (Ai @eye_lt_nat (decide_eq_true hi')))) ?_
    refine wK fun K3 hK3=>?_
    refine jE ?_
    refine awp_skip ?_
    refine hK3 _ _ ?_;clear hK3 K3
    refine wK fun K3 hK3=>?_
    refine awp_block ?_
    have hat:=hrow i hi'
    have hge : (0 : Int)≤(i : Int):=by omega
    obtain ⟨y,hy⟩ : ∃ y,y = pst[i]:=⟨_,rfl⟩
    rw [← hy] at hat
    have hym : y ∈ pst:=by rw [hy]; exact List.getElem_mem hi'
    have htk : y.right→∀ x ∈ pst.take (i + 1),x.right:=fun h=>take_all hi' hall (by rw [← hy]; exact h)
    have hbad : ¬ y.right→decide (PathV.right ⟨pk,pp,pst⟩) = false:=fun h=>decide_eq_false fun hr=>h (hr.1 y hym)
    have hst:=fun s=>step_calls (Γ:=Γ) y (hls y hym) s
    clear hy
    obtain ⟨f,t⟩:=y
    unfold StepV.cells at hat hst
    generalize rowC SealV.cells t = T at *
    refine awp_reg_frz 5 (by simp [dsts]) ?_
    intro K2 hK2
    simp only [↓DM,pval,DX,Nz,↓DN,Qa,Qb,Qc,Qd,Qe,Qf,Qg,Qh,reduceCtorEq,↓reduceIte,Na,Nb,Nc,Nk,Nf,Ng,Nh,Za,Zb,Zc,TT,g8,g6,eye_lt_nat,hi',hge,hat]
    intro o ho
    refine hK2 _ _ o _ (by simp only [upd,Nc,↓reduceIte]) ho ?_
    clear hK2 K2 ho
    refine jQ fun K hK=>?_
    refine acallk (hst _) ?_
    rintro r s2 ⟨rfl,rfl⟩
    by_cases h1 : StepV.right ⟨f,t⟩
    ·refine jV (decide_eq_true h1) hK ?_;clear hK K
     refine jF ?_
     refine awp_skip ?_
     simp only [blockQ,thenQ,if_true,if_false]
     refine hK3 _ _ ?_;clear hK3 K3
     refine jD (Ai @g8 (eye_succM i (by omega))) ?_
     refine ⟨⟨i + 1,by omega,by simp only [upd,↓reduceIte],by simp only [upd,g7,Nc,↓reduceIte],by simp only [upd,g6,Nc,↓reduceIte],by simp only [upd,g1,Nc,↓reduceIte],htk h1,rfl⟩,?_⟩
     simp only [g8,upd,↓reduceIte]
     omega
    ·refine jV (decide_eq_false h1) hK ?_;clear hK K
     refine jE ?_
     refine jA ?_
     refine jI ?_
     exact ⟨_,_,AV.weak.refl _,AS.le.refl _,by rw [hbad h1],rfl⟩
   ·have hfull:=take_full hi' hall
    refine jB (Ai @g8 (Ai @g7 (Ai @eye_lt_nat (decide_eq_false hi')))) ?_
    refine wK fun K3 hK3=>?_
    refine jF ?_
    refine awp_exit ?_
    simp only [thenQ,blockQ,if_true]
    refine hK _ _ ?_;clear hK K hK3 K3
    refine jS @g1 fun K hK=>?_
    refine acallk (rightP_calls pk _) ?_
    rintro r s2 ⟨rfl,rfl⟩
    by_cases h1 : Pub pk
    ·rcases tt2 ((pp.length : Int) == 0) ((pp.length : Int) == 32) with hd | hd | hd
     all_goals
      refine jV (Ai @g1 (Ai (decide_eq_true h1) @hd)) hK ?_;clear hK K
      refine jI ?_
      refine ⟨_,_,AV.weak.refl _,AS.le.refl _,?_,rfl⟩
      simp only [beq_iff_eq,beq_eq_false_iff_ne,ne_eq] at hd
     ·congr 2
      exact decide_eq_decide.2 ⟨fun h=>⟨hfull,h1,Or.inl (by simp only; omega),by simp only; omega⟩,fun h=>by have:=h.2.2.2; simp only at this; omega⟩
     ·congr 2
      exact decide_eq_decide.2 ⟨fun h=>⟨hfull,h1,Or.inr (by simp only; omega),by simp only; omega⟩,fun h=>by have:=h.2.2.2; simp only at this; omega⟩
     ·congr 2
      symm
      exact decide_eq_false fun h=>by have:=h.2.2.1; simp only at this; omega
    ·refine jV (Ai @g1 (decide_eq_false h1)) hK ?_;clear hK K
     refine jI ?_
     exact ⟨_,_,AV.weak.refl _,AS.le.refl _,by rw [decide_eq_false fun h=>h1 h.2.1],rfl⟩
def CommitV.fits (c : CommitV) : Prop:=c.props.length≤9223372036854775807∧c.path.steps.length≤9223372036854775807∧∀ x ∈ c.path.steps,x.seals.length≤9223372036854775807
theorem mright_calls (c : CommitV) (hf : CommitV.fits c) (s : AS) : ACalls Tryz.prog Γ 87 [.agg c.cells] s (fun r s'=>r = .v (.bool (decide c.right))∧s' = s):=by
 refine acalls_body Tryz.func87 rfl Tryz.ntmps87 Tryz.results87 (by simp) ?_
 have hpa:=fun s=>pathed_calls (Γ:=Γ) c hf.2.1 hf.2.2 s
 have hl:=hf.1
 clear hf
 obtain ⟨b,hb⟩ : ∃ b,b = decide c.pathed:=⟨_,rfl⟩
 rw [← hb] at hpa
 have hbp : c.pathed↔b = true:=by rw [hb]; exact (decide_eq_true_iff).symm
 have hR : (∀ x ∈ c.props,x.right)→decide c.right = decide ((1≤c.group.length∧c.group.length≤16)∧(0≤c.epoch∧c.epoch≤1048576)∧(0≤c.sender∧c.sender < 32)∧c.props.length≤16∧b = true∧c.confirm.length = 32∧c.member.length = 32):=by
  intro h
  refine decide_eq_decide.2 ⟨fun q=>?_,fun q=>?_⟩
  ·obtain ⟨_,q1,q2,q3,q4,q5,q6⟩:=q
   exact ⟨q1,q2,q3,q4,hbp.1 q5,q6⟩
  ·obtain ⟨q1,q2,q3,q4,q5,q6⟩:=q
   exact ⟨h,q1,q2,q3,q4,hbp.2 q5,q6⟩
 have hbad0 : ∀ y,y ∈ c.props→¬ y.right→decide c.right = false:=fun y hy h=>decide_eq_false fun q=>h (q.1 y hy)
 generalize decide c.right = R at *
 clear hb hbp
 obtain ⟨g,e,sd,ps,hp,⟨pk,pp,pst⟩,cf,mb⟩:=c
 simp only at hl hR hbad0
 unfold CommitV.cells at hpa ⊢
 have hrow:=fun i (h : i < ps.length)=>row_at (c:=PropV.cells) (k:=5) (fun _=>rfl) h
 generalize hX : rowC StepV.cells pst = X at *
 generalize hZ : rowC PropV.cells ps = Z at *
 refine awp_reg_frz 1 (by simp [dsts]) ?_
 intro K hK
 simp only [↓DM,pval,DX,Nz,↓DN,Qa,Qb,Qc,Qd,Qe,Qf,Qg,Qh,reduceCtorEq,↓reduceIte,Na,Nb,Nc,Nk,Nf,Ng,Nh,Za,Zb,Zc,TT]
 intro o ho
 refine hK _ _ o _ (by simp only [upd,Nc,↓reduceIte]) ho ?_
 clear hK K ho
 refine wK fun K hK=>?_
 refine jA ?_
 refine awp_block ?_
 refine awp_loop (fun E s1=>∃ i : Nat,i≤ps.length∧E 8 = .v (.int .i64 i)∧E 7 = .v (.int .i64 ps.length)∧E 6 = .sl 5 ps.length Z .any∧E 1 = .rop [.sl 1 g.length (g.map byteV) .any,.v (.int .i64 e),.v (.int .i64 sd),.sl 5 ps.length Z .any,.v (.bool hp),.v (.int .u64 pk),.sl 1 pp.length (pp.map byteV) .any,.sl 2 pst.length X .any,.sl 1 cf.length (cf.map byteV) .any,.sl 1 mb.length (mb.map byteV) .any]∧(∀ p ∈ ps.take i,p.right)∧s1 = s)
  (fun E _=>match E 8 with | .v (.int _ i)=>ps.length - i.toNat | _=>0) ?_ ?_
 ·exact ⟨0,Nat.zero_le _,by simp only [upd,↓reduceIte]; rfl,by simp only [upd,Nc,↓reduceIte],by simp only [upd,Nc,↓reduceIte],by simp only [upd,Nc,↓reduceIte],by simp,rfl⟩
 ·rintro E1 s1 ⟨i,hi,g8,g7,g6,g1,hall,rfl⟩ -
  by_cases hi' : i < ps.length
  ·refine jB (Ai @g8 (Ai @g7 (Ai @eye_lt_nat (decide_eq_true hi')))) ?_
   refine wK fun K3 hK3=>?_
   refine jE ?_
   refine awp_skip ?_
   refine hK3 _ _ ?_;clear hK3 K3
   refine wK fun K3 hK3=>?_
   refine awp_block ?_
   have hat:=hrow i hi'
   have hge : (0 : Int)≤(i : Int):=by omega
   obtain ⟨y,hy⟩ : ∃ y,y = ps[i]:=⟨_,rfl⟩
   rw [← hy] at hat
   have hym : y ∈ ps:=by rw [hy]; exact List.getElem_mem hi'
   have htk : y.right→∀ x ∈ ps.take (i + 1),x.right:=fun h=>take_all hi' hall (by rw [← hy]; exact h)
   have hbad:=hbad0 y hym
   have hst:=fun s=>proper_calls (Γ:=Γ) y s
   clear hy
   obtain ⟨pk1,pk2,pk3,pk4,pk5⟩:=y
   unfold PropV.cells at hat hst
   refine awp_reg_frz 4 (by simp [dsts]) ?_
   intro K2 hK2
   simp only [↓DM,pval,DX,Nz,↓DN,Qa,Qb,Qc,Qd,Qe,Qf,Qg,Qh,reduceCtorEq,↓reduceIte,Na,Nb,Nc,Nk,Nf,Ng,Nh,Za,Zb,Zc,TT,g8,g6,eye_lt_nat,hi',hge,hat]
   intro o ho
   refine hK2 _ _ o _ (by simp only [upd,Nc,↓reduceIte]) ho ?_
   clear hK2 K2 ho
   refine jQ fun K hK=>?_
   refine acallk (hst _) ?_
   rintro r s2 ⟨rfl,rfl⟩
   by_cases h1 : PropV.right ⟨pk1,pk2,pk3,pk4,pk5⟩
   ·refine jV (decide_eq_true h1) hK ?_;clear hK K
    refine jF ?_
    refine awp_skip ?_
    simp only [blockQ,thenQ,if_true,if_false]
    refine hK3 _ _ ?_;clear hK3 K3
    refine jD (Ai @g8 (eye_succM i (by omega))) ?_
    refine ⟨⟨i + 1,by omega,by simp only [upd,↓reduceIte],by simp only [upd,g7,Nc,↓reduceIte],by simp only [upd,g6,Nc,↓reduceIte],by simp only [upd,g1,Nc,↓reduceIte],htk h1,rfl⟩,?_⟩
    simp only [g8,upd,↓reduceIte]
    omega
   ·refine jV (decide_eq_false h1) hK ?_;clear hK K
    refine jE ?_
    refine jA ?_
    refine jI ?_
    exact ⟨_,_,AV.weak.refl _,AS.le.refl _,by rw [hbad h1],rfl⟩
  ·have hR:=hR (take_full hi' hall)
   clear hbad0
   refine jB (Ai @g8 (Ai @g7 (Ai @eye_lt_nat (decide_eq_false hi')))) ?_
   refine wK fun K3 hK3=>?_
   refine jF ?_
   refine awp_exit ?_
   simp only [thenQ,blockQ,if_true]
   refine hK _ _ ?_;clear hK K hK3 K3
   refine jS @g1 fun K hK=>?_
   refine acallk (named_calls g _) ?_
   rintro r s2 ⟨rfl,rfl⟩
   by_cases h1 : 1≤g.length∧g.length≤16
   ·rcases ff2 (decide (0≤e)) (decide (e≤1048576)) with hd | hd | hd
    case inr.inr =>
     simp only [↓DM,pval,DX,Nz,↓DN,Qa,Qb,Qc,Qd,Qe,Qf,Qg,Qh,reduceCtorEq,↓reduceIte,Na,Nb,Nc,Nk,Nf,Ng,Nh,Za,Zb,Zc,TT,g1,decide_eq_true h1,hd]
     refine acallk (leaf_calls sd _) ?_
     rintro r s3 ⟨rfl,rfl⟩
     simp only [decide_eq_true_eq] at hd
     by_cases h2 : 0≤sd∧sd < 32
     ·by_cases h3 : ps.length≤16
      ·simp only [↓DM,pval,DX,Nz,↓DN,Qa,Qb,Qc,Qd,Qe,Qf,Qg,Qh,reduceCtorEq,↓reduceIte,Na,Nb,Nc,Nk,Nf,Ng,Nh,Za,Zb,Zc,TT,g1,decide_eq_true h2,decide_eq_true (show (ps.length : Int)≤16 by omega)]
       refine acallk (hpa _) ?_
       rintro r s4 ⟨rfl,rfl⟩
       cases b with
       | true =>
        rcases ff2 ((cf.length : Int) == 32) ((mb.length : Int) == 32) with hd2 | hd2 | hd2
        all_goals
         refine jV (Ai @g1 @hd2) hK ?_;clear hK K
         refine jI ?_
         refine ⟨_,_,AV.weak.refl _,AS.le.refl _,?_,rfl⟩
         simp only [beq_iff_eq,beq_eq_false_iff_ne,ne_eq] at hd2
         rw [hR]
         congr 2
         symm
         first
          | exact decide_eq_true ⟨h1,hd,h2,h3,rfl,by omega,by omega⟩
          | exact decide_eq_false fun h=>by omega
       | false =>
        refine jV @g1 hK ?_;clear hK K
        refine jI ?_
        exact ⟨_,_,AV.weak.refl _,AS.le.refl _,by rw [hR]; simp,rfl⟩
      ·refine jV (Ai @g1 (Ai (decide_eq_true h2) (decide_eq_false (show ¬ (ps.length : Int)≤16 by omega)))) hK ?_;clear hK K
       refine jI ?_
       exact ⟨_,_,AV.weak.refl _,AS.le.refl _,by rw [hR,decide_eq_false fun h=>h3 h.2.2.2.1],rfl⟩
     ·refine jV (Ai @g1 (decide_eq_false h2)) hK ?_;clear hK K
      refine jI ?_
      exact ⟨_,_,AV.weak.refl _,AS.le.refl _,by rw [hR,decide_eq_false fun h=>h2 h.2.2.1],rfl⟩
    all_goals
     refine jV (Ai @g1 (Ai (decide_eq_true h1) @hd)) hK ?_;clear hK K
     refine jI ?_
     refine ⟨_,_,AV.weak.refl _,AS.le.refl _,?_,rfl⟩
     simp only [decide_eq_true_eq,decide_eq_false_iff_not] at hd
     rw [hR,decide_eq_false fun h=>by have:=h.2.1; omega]
   ·refine jV (Ai @g1 (decide_eq_false h1)) hK ?_;clear hK K
    refine jI ?_
    exact ⟨_,_,AV.weak.refl _,AS.le.refl _,by rw [hR,decide_eq_false fun h=>h1 h.1],rfl⟩
end Go.Proofs.YtfjlmkifiihgkaaGreatDoor
namespace Go.AM
open Go
variable {Γ : Nat→List AV} {s s' : AS}
theorem new_right {name : List UInt8} {key : Nat} (h : (leafN name key).right) : rightT [leafN name key]:=by
  have hl : lvs [leafN name key] = 1:=by unfold lvs; simp [Fit]
  refine ⟨by rw [hl]; decide,fun i hi=>?_,.inl hl⟩
  have hi0 : i = 0:=by simp at hi; omega
  subst hi0
  refine ⟨⟨h,.inr ⟨fun _=>rfl,fun _=>rfl⟩,fun u hu=>by cases hu⟩,fun _ _ j hj hj'=>?_⟩
  have : hlf [leafN name key] = 1:=by unfold hlf; simp
  omega
end Go.AM
namespace Go.Proofs.YtfjlmkifiihgkaaGreatDoor
open Go Go.AM Go.Proofs
variable {Γ : Nat→List AV}
theorem foldedNil_calls (t : List NodeV) (sd : Int) (s : AS) : ACalls Tryz.prog Γ 89 [treeV t,.v (.int .i64 sd),.sl 5 0 [] .any] s (fun r s'=>r = .tup [treeV t,intsV [] .any,.v (.bool true)]∧s' = s):=by
 refine acalls_body Tryz.func89 rfl Tryz.ntmps89 Tryz.results89 (by simp) ?_
 have hat:=fun (i : Nat) (h : i < 3)=>eat_int (l:=[2,3,1]) (i:=i) h
 have hcs : [AV.v (.int .i64 2),.v (.int .i64 3),.v (.int .i64 1)] = [2,3,1].map intC:=rfl
 generalize hks : [2,3,1].map intC = KS at *
 unfold treeV intsV
 generalize rowC NodeV.cells t = X
 refine jA ?_
 refine jA ?_
 refine jA ?_
 refine wK fun K hK=>?_
 refine jA ?_
 refine awp_block ?_
 refine awp_loop (fun E s2=>∃ i : Nat,i≤3∧E 22 = .v (.int .i64 i)∧E 21 = .v (.int .i64 3)∧E 20 = .sl 1 3 KS .new∧E 0 = .sl 5 t.length X .any∧E 9 = .v (.slice none 0 0)∧E 2 = .sl 5 0 [] .any∧s2 = s)
  (fun E _=>match E 22 with | .v (.int _ i)=>3 - i.toNat | _=>0) ?_ ?_
 ·refine ⟨0,by decide,by simp only [upd,Nc,↓reduceIte]; rfl,by simp only [upd,Nc,↓reduceIte]; rfl,?_,by simp only [upd,initE,List.getD_cons_zero,List.getD_cons_succ,Nc,↓reduceIte],by simp only [upd,Nc,↓reduceIte],by simp only [upd,initE,List.getD_cons_zero,List.getD_cons_succ,Nc,↓reduceIte],rfl⟩
  simp only [upd,Nc,↓reduceIte]
  rw [← hcs]
  rfl
 ·rintro E1 s4 ⟨i,hi,g22,g21,g20,g0,g9,g2,rfl⟩ -
  by_cases hi' : i < 3
  ·refine jB (Ai @g22 (Ai @g21 (decide_eq_true (show ((i : Nat) : Int) < 3 by omega)))) ?_
   refine wK fun K2 hK2=>?_
   refine jE ?_
   refine awp_skip ?_
   refine hK2 _ _ ?_;clear hK2 K2
   refine wK fun K3 hK3=>?_
   refine awp_block ?_
   have hge : (0 : Int)≤(i : Int):=by omega
   have hlt3 : decide ((i : Int) < 3) = true:=decide_eq_true (by omega)
   have hat':=hat i hi'
   refine jB (Ai @g20 (Ai @g22 (Ai @hge (Ai @hi' (Ai @hat' @eye_lt_nat))))) ?_
   refine jB @g2 ?_
   refine awp_block ?_
   refine awp_loop (fun E s2=>E 28 = .v (.int .i64 0)∧E 27 = .v (.int .i64 (0 : Nat))∧E 22 = .v (.int .i64 i)∧E 21 = .v (.int .i64 3)∧E 20 = .sl 1 3 KS .new∧E 0 = .sl 5 t.length X .any∧E 9 = .v (.slice none 0 0)∧E 2 = .sl 5 0 [] .any∧s2 = s4)
    (fun E _=>0) ?_ ?_
   ·exact ⟨by simp only [upd,Nc,↓reduceIte],by simp only [upd,Nc,↓reduceIte],by simp only [upd,g22,Nc,↓reduceIte],by simp only [upd,g21,Nc,↓reduceIte],by simp only [upd,g20,Nc,↓reduceIte],by simp only [upd,g0,Nc,↓reduceIte],by simp only [upd,g9,Nc,↓reduceIte],by simp only [upd,g2,Nc,↓reduceIte],rfl⟩
   ·rintro E2 s5 ⟨g28,g27,k22,k21,k20,k0,k9,k2,rfl⟩ -
    refine jB (Ai @g28 (Ai @g27 (show decide ((0 : Int) < ((0 : Nat) : Int)) = false from rfl))) ?_
    refine wK fun K5 hK5=>?_
    refine jF ?_
    refine awp_exit ?_
    simp only [thenQ,blockQ,if_true,if_false,Nc]
    refine hK3 _ _ ?_;clear hK3 K3 hK5 K5
    refine jD (Ai @k22 (eye_succM i (by omega))) ?_
    refine ⟨⟨i + 1,by omega,by simp only [upd,Nc,↓reduceIte],by simp only [upd,k21,Nc,↓reduceIte],by simp only [upd,k20,Nc,↓reduceIte],by simp only [upd,k0,Nc,↓reduceIte],by simp only [upd,k9,Nc,↓reduceIte],by simp only [upd,k2,Nc,↓reduceIte],rfl⟩,?_⟩
    simp only [g22,upd,↓reduceIte]
    omega
  ·refine jB (Ai @g22 (Ai @g21 (decide_eq_false (show ¬ ((i : Nat) : Int) < 3 by omega)))) ?_
   refine wK fun K2 hK2=>?_
   refine jF ?_
   refine awp_exit ?_
   simp only [thenQ,blockQ,if_true]
   refine hK _ _ ?_;clear hK hK2 K2 K
   refine jB (Ai @g0 @g9) ?_
   refine jI ?_
   exact ⟨_,_,AV.weak_tup3 (AV.weak.refl _) AV.weak_nil (AV.weak.refl _),AS.le.refl _,rfl,rfl⟩
def pubFoldT (S : StV) (C : CommitV) (F : List NodeV × List Int × Bool) : List NodeV × List Int × Int :=
 if ¬ (S.right∧C.right) then ([],[],12) else
 if C.group≠S.group then ([],[],41) else
 if C.epoch≠S.epoch then ([],[],42) else
 if S.epoch = 1048576 then ([],[],47) else
 if ¬ memI S.tree C.sender then ([],[],43) else
 if F.2.2 = true then (F.1,F.2.1,0) else ([],[],44)
theorem tupN_weak (e : Int) : (AV.tup [.v (.slice none 0 0),.v (.slice none 0 0),.v (.int .i64 e)]).weak (.tup [treeN [],intsV [] .any,.v (.int .i64 e)]) :=
 AV.weak_tup3 (by rw [show treeN [] = nilS from if_pos rfl]; exact AV.weak.refl _) AV.weak_nil (AV.weak.refl _)
theorem pubFold_calls (hG : Γ 3 = dB64.map u8C) (S : StV) (ht : S.wf) (C : CommitV) (hf : CommitV.fits C) (F : List NodeV × List Int × Bool)
  (hF : S.right→C.right→memI S.tree C.sender→∀ s,ACalls Tryz.prog Γ 89 [treeV S.tree,.v (.int .i64 C.sender),.sl 5 C.props.length (rowC PropV.cells C.props) .any] s (fun r s'=>r = .tup [if F.2.2 = true then treeV F.1 else nilS,intsV F.2.1 .any,.v (.bool F.2.2)]∧s' = s))
  (hR : S.right→C.right→memI S.tree C.sender→F.2.2 = true→rightT F.1) (s : AS) :
  ACalls Tryz.prog Γ 28 [.agg S.cells,.agg C.cells] s (fun r s'=>r = .tup [treeN (pubFoldT S C F).1,intsV (pubFoldT S C F).2.1 .any,.v (.int .i64 (pubFoldT S C F).2.2)]∧s' = s):=by
 refine acalls_body Tryz.func28 rfl Tryz.ntmps28 Tryz.results28 (by simp) ?_
 have h1:=fun s=>pubRight_calls (Γ:=Γ) hG S ht s
 have h2:=fun s=>mright_calls (Γ:=Γ) C hf s
 have h3:=fun s=>bytesEqual_calls (Γ:=Γ) C.group S.group s
 have hx1 : ¬ S.right→pubFoldT S C F = ([],[],12):=fun h=>if_pos fun k=>h k.1
 have hx2 : ¬ C.right→pubFoldT S C F = ([],[],12):=fun h=>if_pos fun k=>h k.2
 have hx3 : S.right→C.right→C.group≠S.group→pubFoldT S C F = ([],[],41):=fun a b h=>by unfold pubFoldT; rw [if_neg (fun k=>k ⟨a,b⟩),if_pos h]
 have hx4 : S.right→C.right→C.group = S.group→C.epoch≠S.epoch→pubFoldT S C F = ([],[],42):=fun a b c h=>by unfold pubFoldT; rw [if_neg (fun k=>k ⟨a,b⟩),if_neg (fun k=>k c),if_pos h]
 have hx5 : S.right→C.right→C.group = S.group→C.epoch = S.epoch→S.epoch = 1048576→pubFoldT S C F = ([],[],47):=fun a b c d h=>by unfold pubFoldT; rw [if_neg (fun k=>k ⟨a,b⟩),if_neg (fun k=>k c),if_neg (fun k=>k d),if_pos h]
 have hx6 : S.right→C.right→C.group = S.group→C.epoch = S.epoch→S.epoch≠1048576→¬ memI S.tree C.sender→pubFoldT S C F = ([],[],43):=fun a b c d e h=>by unfold pubFoldT; rw [if_neg (fun k=>k ⟨a,b⟩),if_neg (fun k=>k c),if_neg (fun k=>k d),if_neg e,if_pos h]
 have hx7 : S.right→C.right→C.group = S.group→C.epoch = S.epoch→S.epoch≠1048576→memI S.tree C.sender→F.2.2 = true→pubFoldT S C F = (F.1,F.2.1,0):=fun a b c d e f h=>by unfold pubFoldT; rw [if_neg (fun k=>k ⟨a,b⟩),if_neg (fun k=>k c),if_neg (fun k=>k d),if_neg e,if_neg (fun k=>k f),if_pos h]
 have hx8 : S.right→C.right→C.group = S.group→C.epoch = S.epoch→S.epoch≠1048576→memI S.tree C.sender→F.2.2 = false→pubFoldT S C F = ([],[],44):=fun a b c d e f h=>by unfold pubFoldT; rw [if_neg (fun k=>k ⟨a,b⟩),if_neg (fun k=>k c),if_neg (fun k=>k d),if_neg e,if_neg (fun k=>k f),if_neg (by rw [h]; decide)]
 have hrc : C.right→0≤C.sender∧C.sender < 32:=fun h=>h.2.2.2.1
 have hrt : S.right→rightT S.tree:=fun h=>h.2.2.2.1
 obtain ⟨FT,FL,FB⟩:=F
 simp only at hF hR hx7 hx8
 generalize pubFoldT S C (FT,FL,FB) = PT at *
 obtain ⟨PT1,PT2,PT3⟩:=PT
 by_cases hS : S.right
 ·by_cases hC : C.right
  ·have hC1:=hrc hC
   have hS1:=hrt hS
   rw [decide_eq_true hS] at h1
   rw [decide_eq_true hC] at h2
   replace hx3:=hx3 hS hC
   replace hx4:=hx4 hS hC
   replace hx5:=hx5 hS hC
   replace hx6:=hx6 hS hC
   replace hx7:=hx7 hS hC
   replace hx8:=hx8 hS hC
   replace hF:=hF hS hC
   replace hR:=hR hS hC
   clear hx1 hx2 hrc hrt hf ht
   clear hS hC
   obtain ⟨cg,ce,cs,cp,ch,cpa,cc,cm⟩:=C
   obtain ⟨sg,se,st,sc,si⟩:=S
   unfold CommitV.cells StV.cells at *
   simp only at *
   have hatN:=fun (i : Nat) (h : i < st.length)=>node_at (t:=st) h
   unfold treeV at hF
   unfold treeV bytesV at *
   generalize rowC NodeV.cells st = X at *
   generalize rowC PropV.cells cp = CP at *
   generalize rowC StepV.cells cpa.steps = CS at *
   refine awp_reg_frz2 2 3 (by decide) (by decide) (by decide) ?_
   intro K hK
   simp only [↓DM,pval,DX,Nz,↓DN,Qa,Qb,Qc,Qd,Qe,Qf,Qg,Qh,reduceCtorEq,↓reduceIte,Na,Nb,Nc,Nk,Nf,Ng,Nh,Za,Zb,Zc,TT]
   intro o1 q1 o2 q2
   refine hK _ _ o1 o2 _ _ (by simp only [upd,Nc,↓reduceIte]) (by simp only [upd,Nc,↓reduceIte]) q1 (by rw [AS.set_objs_eq]; exact q2) ?_
   clear hK K q1 q2
   refine wK fun K hK=>?_
   refine awp_block ?_
   refine jQ fun K hK=>?_
   refine acallk (h1 _) ?_
   rintro r s1 ⟨rfl,rfl⟩
   simp only [↓DM,pval,DX,Nz,↓DN,Qa,Qb,Qc,Qd,Qe,Qf,Qg,Qh,reduceCtorEq,↓reduceIte,Na,Nb,Nc,Nk,Nf,Ng,Nh,Za,Zb,Zc,TT]
   refine acallk (h2 _) ?_
   rintro r s2 ⟨rfl,rfl⟩
   refine jR hK ?_;clear hK K
   refine jF ?_
   by_cases hg : cg = sg
   ·rw [decide_eq_true hg] at h3
    refine jK (h3 _) ?_;rintro s3 rfl
    refine jF ?_
    by_cases he : ce = se
    ·refine jB (int_bne_false he) ?_
     refine jF ?_
     by_cases h47 : se = 1048576
     ·cases hx5 hg he h47
      refine jB (int_eq_yes h47) ?_
      refine jE ?_
      refine jA ?_
      refine jI ?_
      exact ⟨_,_,tupN_weak _,AS.le.refl _,rfl,rfl⟩
     ·refine jB (int_eq_no h47) ?_
      refine jF ?_
      obtain ⟨n,rfl⟩:=Int.eq_ofNat_of_zero_le hC1.1
      have hmr : memI st (n : Int)↔2 * n < st.length∧(nd st (2 * n)).kind = 1:=by
       rw [← memR_right hS1]
       unfold memR
       rw [Int.toNat_natCast]
       exact ⟨fun h=>⟨by omega,h.2.2⟩,fun h=>⟨by omega,by omega,h.2⟩⟩
      have hge : (0 : Int)≤((2 * n : Nat) : Int):=by omega
      by_cases hm : memI st (n : Int)
      ·obtain ⟨m1,m2⟩:=hmr.1 hm
       have hat:=hatN _ m1
       generalize nd st (2 * n) = N at *
       obtain ⟨nk,nm,ny,np,nu⟩:=N
       unfold NodeV.cells bytesV at hat
       simp only at m2
       subst m2
       replace hF:=hF hm
       replace hR:=hR hm
       refine jB (Ai (imul2_nat n (by omega)) (Ai @eye_lt_nat (Ai @m1 (Ai @hge (Ai @hat (Ai (decide_eq_false (show ¬ (st.length : Int)≤((2 * n : Nat) : Int) by omega)) (show ((1 : Int) != 1) = false from rfl))))))) ?_
       refine jF ?_
       refine awp_skip ?_
       refine hK _ _ ?_;clear hK K
       refine jK (hF _) ?_;rintro s4 rfl
       refine wK fun K hK=>?_
       cases FB with
       | true =>
        cases hx7 hg he h47 hm rfl
        have hrF:=hR rfl
        have hclo:=fun s=>clone20V_calls (Γ:=Γ) FT (by have:=hrF.len; have:=this.2.le; omega) (fun q hq=>by have:=right_small (hrF.nodes hq); unfold NodeW; omega) s
        rw [treeN_ne (right_ne hrF)] at hK
        simp only [if_true]
        unfold treeV intsV at *
        refine jA ?_
        refine jF ?_
        refine awp_skip ?_
        refine hK _ _ ?_;clear hK K
        refine jK (hclo _) ?_;rintro s5 rfl
        exact jJ
       | false =>
        cases hx8 hg he h47 hm rfl
        refine jA ?_
        refine jE ?_
        refine jA ?_
        refine jI ?_
        exact ⟨_,_,tupN_weak _,AS.le.refl _,rfl,rfl⟩
      ·cases hx6 hg he h47 hm
       by_cases m1 : 2 * n < st.length
       ·have m2 : (nd st (2 * n)).kind≠1:=fun q=>hm (hmr.2 ⟨m1,q⟩)
        have hat:=hatN _ m1
        generalize nd st (2 * n) = N at *
        obtain ⟨nk,nm,ny,np,nu⟩:=N
        unfold NodeV.cells bytesV at hat
        simp only at m2
        refine jB (Ai (imul2_nat n (by omega)) (Ai @eye_lt_nat (Ai @m1 (Ai @hge (Ai @hat (Ai (decide_eq_false (show ¬ (st.length : Int)≤((2 * n : Nat) : Int) by omega)) (int_bne_true m2))))))) ?_
        refine jE ?_
        refine jA ?_
        refine jI ?_
        exact ⟨_,_,tupN_weak _,AS.le.refl _,rfl,rfl⟩
       ·refine jB (Ai (imul2_nat n (by omega)) (decide_eq_true (show (st.length : Int)≤((2 * n : Nat) : Int) by omega))) ?_
        refine jE ?_
        refine jA ?_
        refine jI ?_
        exact ⟨_,_,tupN_weak _,AS.le.refl _,rfl,rfl⟩
    ·cases hx4 hg he
     refine jB (int_bne_true he) ?_
     refine jE ?_
     refine jA ?_
     refine jI ?_
     exact ⟨_,_,tupN_weak _,AS.le.refl _,rfl,rfl⟩
   ·cases hx3 hg
    rw [decide_eq_false hg] at h3
    refine jK (h3 _) ?_;rintro s3 rfl
    refine jE ?_
    refine jA ?_
    refine jI ?_
    exact ⟨_,_,tupN_weak _,AS.le.refl _,rfl,rfl⟩
  ·cases hx2 hC
   rw [decide_eq_true hS] at h1
   rw [decide_eq_false hC] at h2
   clear hx1 hx2 hx3 hx4 hx5 hx6 hx7 hx8 hF hR hrc hrt hf ht hS hC h3
   obtain ⟨cg,ce,cs,cp,ch,cpa,cc,cm⟩:=C
   obtain ⟨sg,se,st,sc,si⟩:=S
   unfold CommitV.cells StV.cells at *
   simp only at *
   unfold treeV bytesV at *
   generalize rowC NodeV.cells st = X at *
   generalize rowC PropV.cells cp = CP at *
   generalize rowC StepV.cells cpa.steps = CS at *
   refine awp_reg_frz2 2 3 (by decide) (by decide) (by decide) ?_
   intro K hK
   simp only [↓DM,pval,DX,Nz,↓DN,Qa,Qb,Qc,Qd,Qe,Qf,Qg,Qh,reduceCtorEq,↓reduceIte,Na,Nb,Nc,Nk,Nf,Ng,Nh,Za,Zb,Zc,TT]
   intro o1 q1 o2 q2
   refine hK _ _ o1 o2 _ _ (by simp only [upd,Nc,↓reduceIte]) (by simp only [upd,Nc,↓reduceIte]) q1 (by rw [AS.set_objs_eq]; exact q2) ?_
   clear hK K q1 q2
   refine wK fun K hK=>?_
   refine awp_block ?_
   refine jQ fun K hK=>?_
   refine acallk (h1 _) ?_
   rintro r s1 ⟨rfl,rfl⟩
   simp only [↓DM,pval,DX,Nz,↓DN,Qa,Qb,Qc,Qd,Qe,Qf,Qg,Qh,reduceCtorEq,↓reduceIte,Na,Nb,Nc,Nk,Nf,Ng,Nh,Za,Zb,Zc,TT]
   refine acallk (h2 _) ?_
   rintro r s2 ⟨rfl,rfl⟩
   refine jR hK ?_;clear hK K
   refine jE ?_
   refine jA ?_
   refine jI ?_
   exact ⟨_,_,tupN_weak _,AS.le.refl _,rfl,rfl⟩
 ·cases hx1 hS
  rw [decide_eq_false hS] at h1
  clear hx1 hx2 hx3 hx4 hx5 hx6 hx7 hx8 hF hR hrc hrt hf ht hS h3 h2
  obtain ⟨cg,ce,cs,cp,ch,cpa,cc,cm⟩:=C
  obtain ⟨sg,se,st,sc,si⟩:=S
  unfold CommitV.cells StV.cells at *
  simp only at *
  unfold treeV bytesV at *
  generalize rowC NodeV.cells st = X at *
  generalize rowC PropV.cells cp = CP at *
  generalize rowC StepV.cells cpa.steps = CS at *
  refine awp_reg_frz2 2 3 (by decide) (by decide) (by decide) ?_
  intro K hK
  simp only [↓DM,pval,DX,Nz,↓DN,Qa,Qb,Qc,Qd,Qe,Qf,Qg,Qh,reduceCtorEq,↓reduceIte,Na,Nb,Nc,Nk,Nf,Ng,Nh,Za,Zb,Zc,TT]
  intro o1 q1 o2 q2
  refine hK _ _ o1 o2 _ _ (by simp only [upd,Nc,↓reduceIte]) (by simp only [upd,Nc,↓reduceIte]) q1 (by rw [AS.set_objs_eq]; exact q2) ?_
  clear hK K q1 q2
  refine wK fun K hK=>?_
  refine awp_block ?_
  refine jK (h1 _) ?_;rintro s1 rfl
  refine jE ?_
  refine jA ?_
  refine jI ?_
  exact ⟨_,_,tupN_weak _,AS.le.refl _,rfl,rfl⟩
theorem needsNil_calls (C : CommitV) (h0 : C.props = []) (s : AS) : ACalls Tryz.prog Γ 91 [.agg C.cells] s (fun r s'=>r = .v (.bool true)∧s' = s):=by
 refine acalls_body Tryz.func91 rfl Tryz.ntmps91 Tryz.results91 (by simp) ?_
 obtain ⟨cg,ce,cs,cp,ch,cpa,cc,cm⟩:=C
 simp only at h0
 subst h0
 unfold CommitV.cells bytesV
 simp only
 generalize rowC StepV.cells cpa.steps = CS at *
 have hr0 : rowC PropV.cells [] = []:=rfl
 rw [hr0]
 refine awp_reg_frz 1 (by decide) ?_
 intro K hK
 simp only [↓DM,pval,DX,Nz,↓DN,Qa,Qb,Qc,Qd,Qe,Qf,Qg,Qh,reduceCtorEq,↓reduceIte,Na,Nb,Nc,Nk,Nf,Ng,Nh,Za,Zb,Zc,TT]
 intro o ho
 refine hK _ _ o _ (by simp only [upd,Nc,↓reduceIte]) ho ?_
 clear hK K ho
 refine jB (show (((0 : Nat) : Int) == 0) = true from rfl) ?_
 exact jJ
theorem nextBare_calls (hG : Γ 3 = dB64.map u8C) (S : StV) (ht : S.wf) (C : CommitV) (hf : CommitV.fits C) (h0 : C.props = []) (hp : C.hasPath = false) (hT : pubFoldT S C (S.tree,[],true) = (S.tree,[],0)) (s : AS) :
  ACalls Tryz.prog Γ 30 [.agg S.cells,.agg C.cells] s (fun r s'=>r = .tup [.agg StV.nought.cells,intsV [] .any,.v (.int .i64 45)]∧s' = s):=by
 refine acalls_body Tryz.func30 rfl Tryz.ntmps30 Tryz.results30 (by simp) ?_
 have h1:=fun s=>pubFold_calls (Γ:=Γ) hG S ht C hf (S.tree,[],true) (fun _ _ _ s=>by
  rw [h0]
  exact foldedNil_calls (Γ:=Γ) S.tree C.sender s) (fun h _ _ _=>h.2.2.2.1) s
 rw [hT] at h1
 have h2:=fun s=>needsNil_calls (Γ:=Γ) C h0 s
 simp only at h1
 clear hT ht hf
 obtain ⟨cg,ce,cs,cp,ch,cpa,cc,cm⟩:=C
 simp only at h0 hp
 subst h0 hp
 obtain ⟨sg,se,st,sc,si⟩:=S
 unfold CommitV.cells StV.cells at *
 simp only at *
 generalize treeN st = TN at *
 unfold treeV bytesV intsV at *
 generalize rowC NodeV.cells st = X at *
 generalize rowC StepV.cells cpa.steps = CS at *
 have hr0 : rowC PropV.cells [] = []:=rfl
 rw [hr0] at *
 refine awp_reg_frz2 2 3 (by decide) (by decide) (by decide) ?_
 intro K hK
 simp only [↓DM,pval,DX,Nz,↓DN,Qa,Qb,Qc,Qd,Qe,Qf,Qg,Qh,reduceCtorEq,↓reduceIte,Na,Nb,Nc,Nk,Nf,Ng,Nh,Za,Zb,Zc,TT]
 intro o1 q1 o2 q2 o3 q3
 obtain ⟨e3,r1,r2,r3⟩:=AS.set_three s q1 q2 q3 [.v (.slice none 0 0),.v (.int .i64 0),.v (.slice none 0 0),.v (.slice none 0 0),.v (.slice none 0 0)]
 rw [e3]
 refine hK _ _ o1 o2 _ _ (by simp only [upd,Nc,↓reduceIte]) (by simp only [upd,Nc,↓reduceIte]) r1 r2 ?_
 clear hK K q1 q2 q3 e3 r1 r2
 refine jK (h1 _) ?_;rintro s1 rfl
 refine wK fun K hK=>?_
 refine awp_block ?_
 refine jB (show ((0 : Int) != 0) = false from rfl) ?_
 refine jF ?_
 refine jK (h2 _) ?_;rintro s2 rfl
 refine jE ?_
 refine jB @AS.set_objs_same ?_
 refine awp_ret ?_
 refine aends_cell_tmp2 (o:=o3) (off:=0) (by simp only [upd,Nc,↓reduceIte]) (AS.set_objs_same _ _ _) (by rw [T.c48]; decide) (by simp only [↓DN,Qa,Qb,Qc,Qd,Qe,Qf,Qg,Qh,reduceCtorEq,↓reduceIte,Na,Nb,Nc,Nk,Nf,Ng,Nh,Za,Zb,Zc,TT]; rfl) ?_
 exact ⟨_,s,AV.weak_tup3 noughtS_weak AV.weak_nil (AV.weak.refl _),AS.le_set (AS.le.refl _) r3 _,rfl,rfl⟩
def stA : StV:=(firstT [103] [97] 9).1
def cA : CommitV:=⟨[103],0,0,[],false,⟨0,[],[]⟩,zeros32,zeros32⟩
theorem cA_right : cA.right:=by decide +kernel
theorem cA_fits : CommitV.fits cA:=⟨by decide,by decide,(by intro x hx; cases hx)⟩
theorem lA_right : (leafN [97] 9).right:=by decide +kernel
theorem stA_eq : firstT [103] [97] 9 = (⟨[103],0,[leafN [97] 9],zeros32,Sha.sum (zeros32 ++ zeros32)⟩,0):=if_pos ⟨lA_right,by decide⟩
theorem stA_right : stA.right:=by
 unfold stA
 rw [stA_eq]
 exact ⟨by decide,by decide,by decide,new_right lA_right,by decide,Sha.sum_length _⟩
theorem stA_fold : pubFoldT stA cA (stA.tree,[],true) = (stA.tree,[],0):=by
 have hm : memI stA.tree 0:=by unfold stA; rw [stA_eq]; decide +kernel
 have e1 : stA.group = [103]:=by unfold stA; rw [stA_eq]
 have e2 : stA.epoch = 0:=by unfold stA; rw [stA_eq]
 unfold pubFoldT
 rw [if_neg (fun k=>k ⟨stA_right,cA_right⟩),if_neg (fun k=>k e1.symm),if_neg (fun k=>k e2.symm),if_neg (by rw [e2]; decide),if_neg (fun k=>k hm),if_pos rfl]
theorem awake24_calls (hG0 : Γ 0 = stC Sha.H0) (hG1 : Γ 1 = Sha.K.map wV) (hG : Γ 3 = dB64.map u8C) (s : AS) : ACalls Tryz.prog Γ 25 [] s (fun r s'=>r = .v (.bool true)∧s' = s):=by
 refine acalls_body Tryz.func25 rfl Tryz.ntmps25 Tryz.results25 (by simp) ?_
 have h1:=fun s=>pubFirst_calls (Γ:=Γ) hG0 hG1 [103] [97] 9 (by decide) (by decide) s
 have h2:=fun s=>nextBare_calls (Γ:=Γ) hG stA (fold_W stA_right.2.2.2.1) cA cA_fits rfl rfl stA_fold s
 have hst : (firstT [103] [97] 9).1 = stA:=rfl
 have he : (firstT [103] [97] 9).2 = 0:=by rw [stA_eq]
 rw [hst,he] at h1
 have e2 : stA.epoch = 0:=by unfold stA; rw [stA_eq]
 have e5 : stA.inter.length = 32:=stA_right.2.2.2.2.2
 have hzm:=zeros32_map
 have hcA : cA.cells = [.sl 1 1 [.v (.int .u8 103)] .any,.v (.int .i64 0),.v (.int .i64 0),.sl 5 0 [] .any,.v (.bool false),.v (.int .u64 0),.sl 1 0 [] .any,.sl 2 0 [] .any,.sl 1 32 (zeros32.map byteV) .any,.sl 1 32 (zeros32.map byteV) .any]:=rfl
 rw [hcA] at h2
 have hnc : StV.nought.cells = [.sl 1 0 [] .any,.v (.int .i64 0),.sl 5 0 [] .any,.sl 1 0 [] .any,.sl 1 0 [] .any]:=rfl
 rw [hnc] at h2
 generalize stA = S at *
 obtain ⟨sg,se,st,sc,si⟩:=S
 simp only at e2 e5
 subst e2
 unfold StV.cells at *
 simp only at *
 unfold treeV bytesV intsV at *
 rw [e5] at *
 generalize zeros32.map byteV = Z at *
 generalize rowC NodeV.cells st = X at *
 have hrep1 : ∀ x : AV,List.replicate 1 x = [x]:=fun _=>rfl
 refine jA ?_
 refine awp_reg_frz 1 (by decide) ?_
 intro K hK
 simp only [↓DM,pval,DX,Nz,↓DN,Qa,Qb,Qc,Qd,Qe,Qf,Qg,Qh,reduceCtorEq,↓reduceIte,Na,Nb,Nc,Nk,Nf,Ng,Nh,Za,Zb,Zc,TT,hrep1]
 refine acallk (ACalls.weaks (.cons AV.weak_any (.cons AV.weak_any (.cons (AV.weak.refl _) .nil))) (h1 _)) ?_
 rintro r s1 ⟨rfl,rfl⟩
 simp only [↓DM,pval,DX,Nz,↓DN,Qa,Qb,Qc,Qd,Qe,Qf,Qg,Qh,reduceCtorEq,↓reduceIte,Na,Nb,Nc,Nk,Nf,Ng,Nh,Za,Zb,Zc,TT]
 intro o1 q1
 refine hK _ _ o1 _ (by simp only [upd,Nc,↓reduceIte]) q1 ?_
 clear hK K q1
 refine awp_drf_seq T.mixed [11,12] [(3,32),(4,32)] [(6,.tup [.agg [.sl 1 0 [] .any,.v (.int .i64 0),.sl 5 0 [] .any,.sl 1 0 [] .any,.sl 1 0 [] .any],.sl 1 0 [] .any,.v (.int .i64 45)])] [11] (by kernel_rfl) ?_
 intro K hK
 simp only [↓AXz_nil,↓AXz_cons,↓AGiv_call,glook_nil,glook_cons,glookN_nil,glookN_cons,noughtV,pval,DX,Nat.reduceBEq,List.toList_toArray,List.map_cons,List.map_nil,aeval,↓DN,Qa,Qb,Qc,Qd,Qe,Qf,Qg,Qh,reduceCtorEq,↓reduceIte,Na,Nb,Nc,Nk,Nf,Ng,Nh,Za,Zb,Zc,TT,hrep1,hzm]
 refine agivk (fun s=>ACalls.weaks (.cons (AV.weak.refl _) (.cons (AV.weak_agg (.cons AV.weak_any (.cons (AV.weak.refl _) (.cons (AV.weak.refl _) (.cons AV.weak_nil (.cons (AV.weak.refl _) (.cons (AV.weak.refl _) (.cons AV.weak_nil (.cons AV.weak_nil (.cons AV.weak_any (.cons AV.weak_any .nil))))))))))) .nil)) (h2 s)) ?_
 intro o3 q3
 refine hK _ _ ?_;clear hK K
 refine jB (Ai (show ((0 : Int) == 0) = true from rfl) (Ai (show (((32 : Nat) : Int) == 32) = true from rfl) (show ((45 : Int) == 45) = true from rfl))) ?_
 refine jI ?_
 exact ⟨_,_,AV.weak.refl _,AS.le_set (AS.le.refl _) q3 _,rfl,rfl⟩
end Go.Proofs.YtfjlmkifiihgkaaGreatDoor
namespace Go.Proofs.YtfjlmkifiihgkaaGreatDoor
open Go Go.AM Go.Proofs
variable {Γ : Nat→List AV}
theorem nodeSame_clo : callable Tryz.prog 116 = true:=by kernel_rfl
theorem nodesEq_calls (a b : List NodeV) (ha : TreeW a) (s : AS) : ACalls Tryz.prog Γ 115 [treeV a,treeV b,.clo 116 []] s (fun r s'=>r = .v (.bool (decide (a = b)))∧s' = s):=by
 refine acalls_body Tryz.func115 rfl Tryz.ntmps115 Tryz.results115 (by simp) ?_
 have hrow1:=fun i (h : i < a.length)=>row_at (c:=NodeV.cells) (k:=5) (fun _=>rfl) h
 have hrow2:=fun i (h : i < b.length)=>row_at (c:=NodeV.cells) (k:=5) (fun _=>rfl) h
 have hal:=ha.1
 unfold treeV
 generalize rowC NodeV.cells a = XA at *
 generalize rowC NodeV.cells b = XB at *
 refine jA ?_
 refine wK fun K hK=>?_
 by_cases hl : a.length = b.length
 ·refine jB (len_bne_false hl) ?_
  refine jF ?_
  refine awp_skip ?_
  refine hK _ _ ?_;clear hK K
  refine wK fun K hK=>?_
  refine jA ?_
  refine awp_block ?_
  refine awp_loop (fun E s2=>∃ i : Nat,i≤a.length∧E 17 = .v (.int .i64 i)∧E 16 = .v (.int .i64 a.length)∧E 15 = .sl 5 a.length XA .any∧E 1 = .sl 5 b.length XB .any∧E 2 = .clo 116 []∧a.take i = b.take i∧s2 = s)
   (fun E _=>match E 17 with | .v (.int _ i)=>a.length - i.toNat | _=>0) ?_ ?_
  ·exact ⟨0,Nat.zero_le _,by simp only [upd,Nc,↓reduceIte]; rfl,by simp only [upd,Nc,↓reduceIte],by simp only [upd,initE,List.getD_cons_zero,List.getD_cons_succ,Nc,↓reduceIte],by simp only [upd,initE,List.getD_cons_zero,List.getD_cons_succ,Nc,↓reduceIte],by simp only [upd,initE,List.getD_cons_zero,List.getD_cons_succ,Nc,↓reduceIte],by simp,rfl⟩
  ·rintro E1 s2 ⟨i,hi,g17,g16,g15,g1,g2,hall,rfl⟩ -
   by_cases hi' : i < a.length
   ·refine jB (Ai @g17 (Ai @g16 (Ai @eye_lt_nat (decide_eq_true hi')))) ?_
    refine wK fun K2 hK2=>?_
    refine jE ?_
    refine awp_skip ?_
    refine hK2 _ _ ?_;clear hK2 K2
    refine wK fun K3 hK3=>?_
    refine awp_block ?_
    have hi2 : i < b.length:=by omega
    have hat1:=hrow1 i hi'
    have hat2:=hrow2 i hi2
    have hge : (0 : Int)≤(i : Int):=by omega
    have hyes : a[i] = b[i]→a.take (i + 1) = b.take (i + 1):=take_eqL hi' hi2 hall
    have hno : a[i]≠b[i]→decide (a = b) = false:=fun h=>decide_eq_false fun q=>h (by subst q; rfl)
    have hsm:=fun s=>nodeSame_calls (Γ:=Γ) a[i] b[i] (ha.2 _ (List.getElem_mem hi')).1 s
    generalize a[i] = y1 at *
    generalize b[i] = y2 at *
    obtain ⟨P,hP⟩ : ∃ P,P = decide (y1 = y2):=⟨_,rfl⟩
    rw [← hP] at hsm
    obtain ⟨nk,nm,ny,npa,nu⟩:=y1
    obtain ⟨mk,mm,my,mpa,mu⟩:=y2
    unfold NodeV.cells at hat1 hat2 hsm
    simp only at hat1 hat2 hsm
    unfold intsV bytesV at hat1 hat2 hsm
    refine awp_reg_frz 8 (by decide) ?_
    intro K4 hK4
    simp only [↓DM,pval,DX,Nz,↓DN,Qa,Qb,Qc,Qd,Qe,Qf,Qg,Qh,reduceCtorEq,↓reduceIte,Na,Nb,Nc,Nk,Nf,Ng,Nh,Za,Zb,Zc,TT,g15,g17,eye_lt_nat,hi',hge,hat1]
    intro o1 q1
    refine hK4 _ _ o1 _ (by simp only [upd,Nc,↓reduceIte]) q1 ?_
    clear hK4 K4 q1
    refine awp_reg_frz 9 (by decide) ?_
    intro K4 hK4
    simp only [↓DM,pval,DX,Nz,↓DN,Qa,Qb,Qc,Qd,Qe,Qf,Qg,Qh,reduceCtorEq,↓reduceIte,Na,Nb,Nc,Nk,Nf,Ng,Nh,Za,Zb,Zc,TT,g1,eye_lt_nat,hi2,hge,hat2]
    intro o2 q2
    refine hK4 _ _ o2 _ (by simp only [upd,Nc,↓reduceIte]) q2 ?_
    clear hK4 K4 q2
    refine jS @g2 fun K hK=>?_
    try refine ⟨nodeSame_clo,?_⟩
    refine acallk (hsm _) ?_
    rintro r s3 ⟨rfl,rfl⟩
    cases P with
    | true =>
     refine jR hK ?_;clear hK K
     refine jF ?_
     refine awp_skip ?_
     simp only [blockQ,thenQ,if_true,if_false]
     refine hK3 _ _ ?_;clear hK3 K3
     refine jD (Ai @g17 (eye_succM i (by omega))) ?_
     refine ⟨⟨i + 1,by omega,by simp only [upd,Nc,↓reduceIte],by simp only [upd,g16,Nc,↓reduceIte],by simp only [upd,g15,Nc,↓reduceIte],by simp only [upd,g1,Nc,↓reduceIte],by simp only [upd,g2,Nc,↓reduceIte],hyes (of_decide_eq_true hP.symm),rfl⟩,?_⟩
     simp only [g17,upd,↓reduceIte]
     omega
    | false =>
     refine jR hK ?_;clear hK K
     refine jE ?_
     refine jA ?_
     refine jI ?_
     rw [hno (of_decide_eq_false hP.symm)]
     exact ⟨_,_,AV.weak.refl _,AS.le.refl _,rfl,rfl⟩
   ·refine jB (Ai @g17 (Ai @g16 (Ai @eye_lt_nat (decide_eq_false hi')))) ?_
    refine wK fun K2 hK2=>?_
    refine jF ?_
    refine awp_exit ?_
    simp only [thenQ,blockQ,if_true]
    refine hK _ _ ?_;clear hK hK2 K2 K
    have hab : a = b:=take_fullL hl hi' hall
    refine jA ?_
    refine jI ?_
    rw [decide_eq_true hab]
    exact ⟨_,_,AV.weak.refl _,AS.le.refl _,rfl,rfl⟩
 ·refine jB (len_bne_true hl) ?_
  refine jE ?_
  refine jA ?_
  refine jI ?_
  rw [decide_eq_false (fun q=>hl (by rw [q]))]
  exact ⟨_,_,AV.weak.refl _,AS.le.refl _,rfl,rfl⟩
theorem pubSame_calls (S T : StV) (ht : S.wf) (s : AS) : ACalls Tryz.prog Γ 42 [.agg S.cells,.agg T.cells] s (fun r s'=>r = .v (.bool (decide (S = T)))∧s' = s):=by
 refine acalls_body Tryz.func42 rfl Tryz.ntmps42 Tryz.results42 (by simp) ?_
 have h1:=fun s=>bytesEqual_calls (Γ:=Γ) S.group T.group s
 have h2:=fun s=>nodesEq_calls (Γ:=Γ) S.tree T.tree ht s
 have h3:=fun s=>bytesEqual_calls (Γ:=Γ) S.conf T.conf s
 have h4:=fun s=>bytesEqual_calls (Γ:=Γ) S.inter T.inter s
 obtain ⟨Z,hZ⟩ : ∃ Z : Bool,Z = decide (S = T):=⟨_,rfl⟩
 rw [← hZ]
 obtain ⟨g,e,t,c,i⟩:=S
 obtain ⟨g',e',t',c',i'⟩:=T
 have hS : Z = true↔g = g'∧e = e'∧t = t'∧c = c'∧i = i':=by rw [hZ,decide_eq_true_iff,StV.mk.injEq]
 clear hZ
 unfold StV.cells
 simp only at *
 unfold treeV bytesV at *
 generalize rowC NodeV.cells t = X at *
 generalize rowC NodeV.cells t' = X' at *
 refine awp_reg_frz2 2 3 (by decide) (by decide) (by decide) ?_
 intro K hK
 simp only [↓DM,pval,DX,Nz,↓DN,Qa,Qb,Qc,Qd,Qe,Qf,Qg,Qh,reduceCtorEq,↓reduceIte,Na,Nb,Nc,Nk,Nf,Ng,Nh,Za,Zb,Zc,TT]
 intro o1 q1 o2 q3
 refine hK _ _ o1 o2 _ _ (by simp only [upd,Nc,↓reduceIte]) (by simp only [upd,Nc,↓reduceIte]) q1 (by rw [AS.set_objs_eq]; exact q3) ?_
 clear hK K q1 q3
 refine jQ fun K hK=>?_
 refine acallk (h1 _) ?_
 rintro r s1 ⟨rfl,rfl⟩
 by_cases d1 : g = g'
 ·rw [decide_eq_true d1]
  by_cases d2 : e = e'
  ·simp only [↓DM,pval,DX,Nz,↓DN,Qa,Qb,Qc,Qd,Qe,Qf,Qg,Qh,reduceCtorEq,↓reduceIte,Na,Nb,Nc,Nk,Nf,Ng,Nh,Za,Zb,Zc,TT,int_eq_yes d2]
   refine acallk (ACalls.weaks (.cons (AV.weak.refl _) (.cons (AV.weak.refl _) (.cons (clo_weak _) .nil))) (h2 _)) ?_
   rintro r s2 ⟨rfl,rfl⟩
   by_cases d3 : t = t'
   ·rw [decide_eq_true d3]
    simp only [↓DM,pval,DX,Nz,↓DN,Qa,Qb,Qc,Qd,Qe,Qf,Qg,Qh,reduceCtorEq,↓reduceIte,Na,Nb,Nc,Nk,Nf,Ng,Nh,Za,Zb,Zc,TT,int_eq_yes d2]
    refine acallk (h3 _) ?_
    rintro r s3 ⟨rfl,rfl⟩
    by_cases d4 : c = c'
    ·rw [decide_eq_true d4]
     simp only [↓DM,pval,DX,Nz,↓DN,Qa,Qb,Qc,Qd,Qe,Qf,Qg,Qh,reduceCtorEq,↓reduceIte,Na,Nb,Nc,Nk,Nf,Ng,Nh,Za,Zb,Zc,TT,int_eq_yes d2]
     refine acallk (h4 _) ?_
     rintro r s4 ⟨rfl,rfl⟩
     refine jR hK ?_;clear hK K
     refine jI ?_
     refine ⟨_,_,AV.weak.refl _,AS.le.refl _,?_,rfl⟩
     congr 2
     rw [Bool.eq_iff_iff,hS,decide_eq_true_iff]
     exact ⟨fun h=>⟨d1,d2,d3,d4,h⟩,fun h=>h.2.2.2.2⟩
    ·rw [decide_eq_false d4]
     refine jV (int_eq_yes d2) hK ?_;clear hK K
     refine jI ?_
     exact ⟨_,_,AV.weak.refl _,AS.le.refl _,by rw [Bool.eq_false_iff.2 fun h=>d4 (hS.1 h).2.2.2.1],rfl⟩
   ·rw [decide_eq_false d3]
    refine jV (int_eq_yes d2) hK ?_;clear hK K
    refine jI ?_
    exact ⟨_,_,AV.weak.refl _,AS.le.refl _,by rw [Bool.eq_false_iff.2 fun h=>d3 (hS.1 h).2.2.1],rfl⟩
  ·refine jV (int_eq_no d2) hK ?_;clear hK K
   refine jI ?_
   exact ⟨_,_,AV.weak.refl _,AS.le.refl _,by rw [Bool.eq_false_iff.2 fun h=>d2 (hS.1 h).2.1],rfl⟩
 ·rw [decide_eq_false d1]
  refine jR hK ?_;clear hK K
  refine jI ?_
  exact ⟨_,_,AV.weak.refl _,AS.le.refl _,by rw [Bool.eq_false_iff.2 fun h=>d1 (hS.1 h).1],rfl⟩
theorem hd_len (g : List UInt8) (e : Int) : (headB g e).length = 9 + g.length:=by unfold headB; rw [List.length_append,txt_len,length_be]; omega
theorem pen_raw0 (a : List UInt8) : penRaw a ([],false) = (a,false):=by simp [penRaw]
theorem penNum8 (n : Nat) (st : List UInt8 × Bool) : penNum 8 n st = penRaw (be 8 n) st:=rfl
theorem epoch_u64 {e : Int} (h : 0≤e) (k : e < 2 ^ 62) : iconv .u64 e = ((e.toNat : Nat) : Int):=by
 obtain ⟨n,rfl⟩:=Int.eq_ofNat_of_zero_le h
 rw [Int.toNat_natCast]
 exact u64_conv (by omega)
theorem pubOctets_calls (hG : Γ 3 = dB64.map u8C) (S : StV) (ht : S.wf) (s : AS) : ACalls Tryz.prog Γ 38 [.agg S.cells] s (fun r s'=>r = .tup [bytesV (if S.right then S.text else []) .any,.v (.bool (decide S.right))]∧s' = s):=by
 refine acalls_body Tryz.func38 rfl Tryz.ntmps38 Tryz.results38 (by simp) ?_
 have h1:=fun s=>pubRight_calls (Γ:=Γ) hG S ht s
 by_cases hr : S.right
 ·rw [decide_eq_true hr] at h1 ⊢
  rw [if_pos hr]
  have hwr:=fun s0 s p st hst (h : PenS s0 s p st)=>treeWrite_calls (Γ:=Γ) hG S.tree ht s0 s p st hst h
  have htl:=treeText_len hr.2.2.2.1
  have htp : ∀ st,treePen S.tree st = penRaw (treeText S.tree) st:=fun st=>if_pos hr.2.2.2.1
  have hSt : S.text = txt 1 S.group ++ (be 8 S.epoch.toNat ++ (treeText S.tree ++ (txt 1 S.conf ++ (txt 1 S.inter ++ [])))):=rfl
  have hSl:=StV.text_len hr
  obtain ⟨⟨r1,r2⟩,r3,r4,-,r5,r6⟩:=hr
  generalize S.text = TX at *
  obtain ⟨g,e,t,c,i⟩:=S
  simp only at *
  generalize treeText t = TT0 at *
  unfold StV.cells at *
  unfold treeV bytesV at *
  simp only at *
  generalize rowC NodeV.cells t = X at *
  refine awp_reg_frz 1 (by decide) ?_
  intro K hK
  simp only [↓DM,pval,DX,Nz,↓DN,Qa,Qb,Qc,Qd,Qe,Qf,Qg,Qh,reduceCtorEq,↓reduceIte,Na,Nb,Nc,Nk,Nf,Ng,Nh,Za,Zb,Zc,TT]
  intro o ho
  refine hK _ _ o _ (by simp only [upd,Nc,↓reduceIte]) ho ?_
  clear hK K ho
  refine wK fun K hK=>?_
  refine jK (h1 _) ?_;rintro s1 rfl
  refine jF ?_
  refine awp_skip ?_
  refine hK _ _ ?_;clear hK K
  refine jQ fun K hK=>?_
  refine acallk (new_calls _) ?_
  rintro r s2 ⟨p,rfl,hp⟩
  refine jR hK ?_;clear hK K
  refine jQ fun K hK=>?_
  refine acallk (penShort_calls s1 s2 p _ _ g (IsB.any g) (by simp; omega) hp) ?_
  rintro r s3 ⟨rfl,h2⟩
  rw [penText_raw (by omega),pen_raw0] at h2
  refine jR hK ?_;clear hK K
  refine jS (epoch_u64 r3 (by omega)) fun K hK=>?_
  refine acallk (penU64_calls s1 s3 p _ e.toNat (by omega) (by simp [txt]; omega) h2) ?_
  rintro r s4 ⟨rfl,h3⟩
  rw [penNum8] at h3
  refine jR hK ?_;clear hK K
  refine jQ fun K hK=>?_
  refine acallk (hwr s1 s4 p _ (by simp [penRaw]; omega) h3) ?_
  rintro r s5 ⟨rfl,h4⟩
  rw [htp,penRaw_raw] at h4
  refine jR hK ?_;clear hK K
  refine jQ fun K hK=>?_
  refine acallk (penShort_calls s1 s5 p _ _ c (IsB.any c) (by simp [penRaw]; omega) h4) ?_
  rintro r s6 ⟨rfl,h5⟩
  rw [penText_raw (by omega),penRaw_raw] at h5
  refine jR hK ?_;clear hK K
  refine jQ fun K hK=>?_
  refine acallk (penShort_calls s1 s6 p _ _ i (IsB.any i) (by simp [penRaw]; omega) h5) ?_
  rintro r s7 ⟨rfl,h6⟩
  rw [penText_raw (by omega),penRaw_raw] at h6
  have hfin : penRaw (be 8 e.toNat ++ TT0 ++ (be 1 c.length ++ c) ++ (be 1 i.length ++ i)) (be 1 g.length ++ g,false) = (TX,false):=by
   rw [hSt]
   simp [penRaw,txt]
  rw [hfin] at h6
  refine jR hK ?_;clear hK K
  refine jK (penBytes_calls s1 s7 p _ (by simp only; omega) h6) ?_;rintro s8 rfl
  refine jI ?_
  exact ⟨_,s1,AV.weak.refl _,h6.le,by simp,rfl⟩
 ·rw [decide_eq_false hr] at h1 ⊢
  rw [if_neg hr]
  unfold StV.cells at *
  unfold treeV bytesV at *
  generalize rowC NodeV.cells S.tree = X at *
  refine awp_reg_frz 1 (by decide) ?_
  intro K hK
  simp only [↓DM,pval,DX,Nz,↓DN,Qa,Qb,Qc,Qd,Qe,Qf,Qg,Qh,reduceCtorEq,↓reduceIte,Na,Nb,Nc,Nk,Nf,Ng,Nh,Za,Zb,Zc,TT]
  intro o ho
  refine hK _ _ o _ (by simp only [upd,Nc,↓reduceIte]) ho ?_
  clear hK K ho
  refine wK fun K hK=>?_
  refine jK (h1 _) ?_;rintro s1 rfl
  refine jE ?_
  refine jA ?_
  refine jI ?_
  exact ⟨_,_,AV.weak_tup2 AV.weak_nil (AV.weak.refl _),AS.le.refl _,rfl,rfl⟩
end Go.Proofs.YtfjlmkifiihgkaaGreatDoor
