/- Contracts of the program's functions, each walked once; the conditions stand in each theorem. -/
import Derived.Test.YtfjlmkifiihgkaaGreatDoorAMp6
import Derived.Test.YtfjlmkifiihgkaaGreatDoorW1
import Derived.Test.YtfjlmkifiihgkaaGreatDoorW12
import Derived.Test.YtfjlmkifiihgkaaGreatDoorRows
import Derived.Test.YtfjlmkifiihgkaaGreatDoorW7
import Derived.ProofKit
import Derived.LaidMore
import Derived.MakeChecks
import Derived.OpenShut
set_option linter.unusedSimpArgs false
set_option linter.unusedVariables false
open Nat renaming reduceLT → Na, reduceLeDiff → Nb, reduceEqDiff → Nc, reduceAdd → Nk, reduceMul → Nf, reducePow → Ng, reduceSub → Nh, reduceBEq → Nz
open Int renaming reduceLT → Za, reduceLE → Zb, reduceToNat → Zc
open And renaming intro → Ai
open Go.AM renaming ashift → Qa, aconv → Qb, aindexAddr → Qc, aindex → Qd, aslice → Qe, abuiltin → Qf, awp_reg_seq → wS, awp_reg_end → wE, awp_seq_k → wK, awp_cond_k → wC
open Go.AM.AV renaming cells → Qg, one → Qh
set_option maxRecDepth 100000
set_option maxHeartbeats 8000000
set_option autoImplicit false
namespace Go.Proofs.YtfjlmkifiihgkaaGreatDoor
open Go Go.AM Go.Proofs
variable {Γ : Nat→List AV}
theorem stepA_calls (hG : Γ 3 = dB64.map u8C) (t : List NodeV) (hr : rightT t) (a : ActV) (hn : a.name.length≤40) (hy : a.key < 2 ^ 64) (s : AS) :
  ACalls Tryz.prog Γ 14 [treeV t,.agg a.cells] s (fun r s'=>∃ (T : List NodeV) (f : Int),r = .tup [treeN T,treeN T,.v (.int .i64 f),.v (.int .i64 f),.v (.bool true)]∧s' = s∧((T = []∧f≠0)∨(rightT T∧f = 0))):=by
 obtain ⟨k,h1,h2⟩:=rest20_range a.kind 4 (by decide) (by decide)
 have hrest:=fun s=>restIs_calls (Γ:=Γ) a.kind 4 k h1 (by decide) s
 by_cases h3 : k = 3
 ·subst h3
  refine (stepB_calls t hr a hy hrest s).mono ?_
  rintro r s' ⟨T,f,rfl,h4,h5⟩
  obtain ⟨h6,rfl⟩:=h5
  exact ⟨T,0,by rw [treeN_ne (right_ne h6)],h4,.inr ⟨h6,rfl⟩⟩
 ·exact step3G_calls hG t (fold_W hr) a k (by omega) hrest hn s
theorem ratchetActs_calls (hG0 : Γ 0 = stC Sha.H0) (hG1 : Γ 1 = Sha.K.map wV) (hG : Γ 3 = dB64.map u8C) (name : List UInt8) (key : Nat) (l : List ActV) (hk : ∀ a ∈ l,a.key < 2 ^ 64) (s : AS) :
  ACalls Tryz.prog Γ 3 [bytesV name .any,.v (.int .u64 key),actsV l] s (fun r s'=>r = .v (.bool true)):=by
 have haw:=fun s=>awake20_calls (Γ:=Γ) hG s
 have hacts:=fun i (h : i < l.length)=>act_at (l:=l) h
 refine acalls_body Tryz.func3 rfl Tryz.ntmps3 Tryz.results3 (by simp) ?_
 by_cases h20 : l.length≤20
 ·by_cases h40 : name.length≤40
  ·have d20 : decide ((20 : Int) < (l.length : Int)) = false:=decide_eq_false (by omega)
   have d40 : decide ((40 : Int) < (name.length : Int)) = false:=decide_eq_false (by omega)
   have hnew:=fun s=>new20_calls (Γ:=Γ) name key (by omega) s
   have hrnew:=fun s=>refNew20_calls (Γ:=Γ) name key (by omega) s
   have hstep:=fun (t : List NodeV) (h : rightT t) (a : ActV) (hn : a.name.length≤40) (hy : a.key < 2 ^ 64) s=>stepA_calls (Γ:=Γ) hG t h a hn hy s
   have htell:=fun (t : List NodeV) (h : rightT t) s=>tells20_calls (Γ:=Γ) hG0 hG1 hG t (fold_W h) (by have:=h.len; have:=lvs_le t; omega) (fun n hn=>by have:=right_small (h.nodes hn); unfold NodeW; omega) s
   have hsame:=fun (T : List NodeV) (h : TreeW T) s=>sameN_calls (Γ:=Γ) T T h s
   have h00 : ((0 : Int) != 0) = false:=rfl
   have h22 : ((2 : Int) != 2) = false:=rfl
   have h20' : ((2 : Int) != 0) = true:=rfl
   by_cases hlf : (leafN name key).right
   ·rw [if_pos hlf] at hnew hrnew
    have hrt0 : rightT [leafN name key]:=new_right hlf
    have hs0:=fun s=>hsame [leafN name key] (fold_W hrt0) s
    rw [decide_eq_true rfl,treeN_ne (right_ne hrt0)] at hs0
    generalize [leafN name key] = T0 at *
    unfold actsV treeV bytesV at *
    generalize rowC ActV.cells l = X at *
    refine jA ?_
    refine wK fun K hK=>?_
    refine jQ fun K hK=>?_
    refine acallk (haw _) ?_
    rintro r s1 ⟨rfl,rfl⟩
    refine jV (Ai @d20 @d40) hK ?_;clear hK K
    refine jF ?_
    refine awp_skip ?_
    refine hK _ _ ?_;clear hK K
    refine jK (hnew _) ?_;rintro s2 rfl
    refine jK (hrnew _) ?_;rintro s3 rfl
    refine wK fun K hK=>?_
    refine jS @h00 fun K hK=>?_
    refine acallk (hs0 _) ?_
    rintro r s4 ⟨rfl,rfl⟩
    refine jR hK ?_;clear hK K
    refine jF ?_
    refine awp_skip ?_
    refine hK _ _ ?_;clear hK K
    refine wK fun K hK=>?_
    refine jB @h00 ?_
    refine jF ?_
    refine awp_skip ?_
    refine hK _ _ ?_;clear hK K
    refine jA ?_
    refine wK fun K hK=>?_
    refine jA ?_
    refine awp_block ?_
    refine awp_loop (fun E s5=>∃ (i : Nat) (Tr : List NodeV),i≤l.length∧rightT Tr∧E 11 = .v (.int .i64 i)∧E 2 = .sl 4 l.length X .any∧E 7 = .sl 5 Tr.length (rowC NodeV.cells Tr) .any)
     (fun E _=>match E 11 with | .v (.int _ i)=>l.length - i.toNat | _=>0) ?_ ?_
    ·exact ⟨0,T0,Nat.zero_le _,hrt0,by simp only [upd,Nc,↓reduceIte]; rfl,by simp only [upd,initE,List.getD_cons_zero,List.getD_cons_succ,Nc,↓reduceIte],by simp only [upd,Nc,↓reduceIte]⟩
    ·rintro E1 s5 ⟨i,Tr,hi,hF,g11,g2,g7⟩ -
     clear hs0 hrt0 hnew hrnew haw
     by_cases hi' : i < l.length
     ·refine wK fun K2 hK2=>?_
      refine jB (Ai @g11 (Ai @g2 (Ai @eye_lt_nat (decide_eq_true hi')))) ?_
      refine jE ?_
      refine awp_skip ?_
      refine hK2 _ _ ?_;clear hK2 K2
      refine wK fun K3 hK3=>?_
      refine awp_block ?_
      have q11:=g11
      have hge : (0 : Int)≤((i : Nat) : Int):=by omega
      have hat:=hacts i hi'
      have hkey:=hk l[i] (List.getElem_mem hi')
      generalize l[i] = a at *
      have hstp:=fun (hn : a.name.length≤40) s=>hstep Tr hF a hn hkey s
      unfold ActV.cells at hat hstp
      obtain ⟨ak,al,an,ay⟩:=a
      simp only at hat hkey hstp
      unfold bytesV at hat hstp
      refine wK fun K4 hK4=>?_
      by_cases hnl : an.length≤40
      ·have hstq:=fun s=>hstp hnl s
       refine jB (Ai @g2 (Ai @g11 (Ai @hge (Ai @hi' (Ai @eye_lt_nat (Ai @hat (decide_eq_false (show ¬ (40 : Int) < (an.length : Int) by omega)))))))) ?_
       refine jF ?_
       refine awp_skip ?_
       refine hK4 _ _ ?_;clear hK4 K4
       refine jS (Ai @g7 (Ai @g2 (Ai @g11 (Ai @hge (Ai @hi' (Ai @eye_lt_nat @hat)))))) fun K hK=>?_
       refine acallk (hstq _) ?_
       rintro r s6 ⟨T9,f,rfl,rfl,hc⟩
       refine jV (Ai @g2 @g11) hK ?_;clear hK K
       have hff : (f != f) = false:=by simp
       have hst:=fun s=>hsame T9 (by
        rcases hc with ⟨rfl,_⟩ | ⟨h,_⟩
        ·exact fold_nilW
        ·exact fold_W h) s
       rw [decide_eq_true rfl] at hst
       refine wK fun K5 hK5=>?_
       refine jS @hff fun K hK=>?_
       refine acallk (hst _) ?_
       rintro r s7 ⟨rfl,rfl⟩
       refine jR hK ?_;clear hK K
       refine jF ?_
       refine awp_skip ?_
       refine hK5 _ _ ?_;clear hK5 K5
       refine wK fun K6 hK6=>?_
       have hJ : ∀ (E : Env) (Tr : List NodeV),rightT Tr→E 11 = .v (.int .i64 i)→E 2 = .sl 4 l.length X .any→E 7 = .sl 5 Tr.length (rowC NodeV.cells Tr) .any→K6 E s7:=by
        intro E Tr hF g11 g2 g7
        refine hK6 _ _ ?_;clear hK6 K6
        have hte:=fun s=>htell Tr hF s
        refine jS @g7 fun K hK=>?_
        refine acallk (hte _) ?_
        rintro r s8 ⟨rfl,rfl⟩
        refine jR hK ?_;clear hK K
        refine jF ?_
        refine awp_skip ?_
        refine hK3 _ _ ?_;clear hK3 K3
        refine jD (Ai @g11 (eye_succM i (by omega))) ?_
        refine ⟨⟨i + 1,Tr,by omega,hF,by simp only [upd,Nc,↓reduceIte],by simp only [upd,g2,Nc,↓reduceIte],by simp only [upd,g7,Nc,↓reduceIte]⟩,?_⟩
        simp only [q11,upd,↓reduceIte]
        omega
       clear hK6
       rcases hc with ⟨rfl,hf⟩ | ⟨hr9,rfl⟩
       ·have hf0 : (f == 0) = false:=by simpa using hf
        refine jB @hf0 ?_
        refine jF ?_
        refine awp_skip ?_
        exact hJ _ Tr hF (by simp only [upd,g11,Nc,↓reduceIte]) (by simp only [upd,g2,Nc,↓reduceIte]) (by simp only [upd,g7,Nc,↓reduceIte])
       ·have e9 : treeN T9 = .sl 5 T9.length (rowC NodeV.cells T9) .any:=treeN_ne (right_ne hr9)
        rw [e9]
        refine jB (show ((0 : Int) == 0) = true from rfl) ?_
        refine jE ?_
        refine jC ?_
        exact hJ _ T9 hr9 (by simp only [upd,g11,Nc,↓reduceIte]) (by simp only [upd,g2,Nc,↓reduceIte]) (by simp only [upd,Nc,↓reduceIte])
      ·refine jB (Ai @g2 (Ai @g11 (Ai @hge (Ai @hi' (Ai @eye_lt_nat (Ai @hat (decide_eq_true (show (40 : Int) < (an.length : Int) by omega)))))))) ?_
       refine jE ?_
       refine jA ?_
       refine jI ?_
       exact ⟨_,_,AV.weak.refl _,AS.le.refl _,rfl⟩
     ·refine wK fun K2 hK2=>?_
      refine jB (Ai @g11 (Ai @g2 (Ai @eye_lt_nat (decide_eq_false hi')))) ?_
      refine jF ?_
      refine awp_exit ?_
      simp only [thenQ,blockQ,if_true]
      refine hK _ _ ?_;clear hK hK2 K2 K
      refine jA ?_
      refine jI ?_
      exact ⟨_,_,AV.weak.refl _,AS.le.refl _,rfl⟩
   ·rw [if_neg hlf] at hnew hrnew
    have hs0:=fun s=>hsame [] fold_nilW s
    rw [decide_eq_true rfl] at hs0
    have e0 : treeN [] = nilS:=if_pos rfl
    rw [e0] at hs0
    unfold nilS at *
    unfold actsV bytesV at *
    generalize rowC ActV.cells l = X at *
    refine jA ?_
    refine wK fun K hK=>?_
    refine jQ fun K hK=>?_
    refine acallk (haw _) ?_
    rintro r s1 ⟨rfl,rfl⟩
    refine jV (Ai @d20 @d40) hK ?_;clear hK K
    refine jF ?_
    refine awp_skip ?_
    refine hK _ _ ?_;clear hK K
    refine jK (hnew _) ?_;rintro s2 rfl
    refine jK (hrnew _) ?_;rintro s3 rfl
    refine wK fun K hK=>?_
    refine jS @h22 fun K hK=>?_
    refine acallk (hs0 _) ?_
    rintro r s4 ⟨rfl,rfl⟩
    refine jR hK ?_;clear hK K
    refine jF ?_
    refine awp_skip ?_
    refine hK _ _ ?_;clear hK K
    refine wK fun K hK=>?_
    refine jB @h20' ?_
    refine jE ?_
    refine jA ?_
    refine jI ?_
    exact ⟨_,_,AV.weak.refl _,AS.le.refl _,rfl⟩
  ·have d20 : decide ((20 : Int) < (l.length : Int)) = false:=decide_eq_false (by omega)
   have d40 : decide ((40 : Int) < (name.length : Int)) = true:=decide_eq_true (by omega)
   unfold actsV bytesV at *
   generalize rowC ActV.cells l = X at *
   refine jA ?_
   refine wK fun K hK=>?_
   refine jQ fun K hK=>?_
   refine acallk (haw _) ?_
   rintro r s1 ⟨rfl,rfl⟩
   refine jV (Ai @d20 @d40) hK ?_;clear hK K
   refine jE ?_
   refine jK (haw _) ?_;rintro s2 rfl
   refine jI ?_
   exact ⟨_,_,AV.weak.refl _,AS.le.refl _,rfl⟩
 ·have d20 : decide ((20 : Int) < (l.length : Int)) = true:=decide_eq_true (by omega)
  unfold actsV bytesV at *
  generalize rowC ActV.cells l = X at *
  refine jA ?_
  refine wK fun K hK=>?_
  refine jQ fun K hK=>?_
  refine acallk (haw _) ?_
  rintro r s1 ⟨rfl,rfl⟩
  refine jV @d20 hK ?_;clear hK K
  refine jE ?_
  refine jK (haw _) ?_;rintro s2 rfl
  refine jI ?_
  exact ⟨_,_,AV.weak.refl _,AS.le.refl _,rfl⟩
end Go.Proofs.YtfjlmkifiihgkaaGreatDoor
namespace Go.Proofs.YtfjlmkifiihgkaaGreatDoor
open Go Go.AM Go.Proofs
def dB32 : List Nat:=[0,1,28,2,29,14,24,3,30,22,20,15,25,17,4,8,31,27,13,23,21,19,16,7,26,12,18,6,11,5,10,9]
def Γd (g : Nat) : List AV:=if g = 0 then [wV Sha.H0.a,wV Sha.H0.b,wV Sha.H0.c,wV Sha.H0.d,wV Sha.H0.e,wV Sha.H0.f,wV Sha.H0.g,wV Sha.H0.h] else if g = 1 then Sha.K.map wV else if g = 2 then dB32.map u8C else if g = 3 then dB64.map u8C else []
abbrev laidD : List (String × DataW Unit):=[("math/bits.deBruijn32tab", Rows.laid_math_bits_deBruijn32tab),("math/bits.deBruijn64tab", Rows.laid_math_bits_deBruijn64tab),("engrosser/sha.rounds", Rows.laid_engrosser_sha_rounds),("engrosser/sha.start", Rows.laid_engrosser_sha_start)]
theorem ints_of_trod {H : Type} {enc : TypeId × Value→H} {P : Program} {W : World} {base : Nat} {sp : Nat→Bool} {held : Bool} {fuel : Nat} {t e : TypeId} {n : Nat} {cs : List Value} {p : List MemPlace} {l : List Nat} {kd : IntKind}
    (hT : P.underlying t = some (.array n e)) (he : P.underlying e = some (.int kd)) (hc : P.cellsOf e = 1)
    (h : DataW.trod enc P W base sp held fuel t cs = some (.agg (l.map fun (x : Nat)=>.lit (.int kd (x : Int))),p)) : ∀ (i x : Nat),l[i]? = some x→cs[i]? = some (.int kd (x : Int)):=by
  obtain ⟨xs,m,rfl,hx,hlen,hn,hel⟩:=DataW.trod_array hT h
  simp only [Prod.mk.injEq,DataW.agg.injEq] at hx
  intro i x hi
  have h1 : (l.map fun (x : Nat)=>DataW.lit (H:=H) (.int kd (x : Int)))[i]? = some (.lit (.int kd (x : Int))):=by rw [List.getElem?_map,hi]; rfl
  rw [hx.1,List.getElem?_map] at h1
  cases hy : xs[i]? with
  | none=>rw [hy] at h1; cases h1
  | some y =>
    rw [hy] at h1
    simp only [Option.map_some,Option.some.injEq] at h1
    have hlt:=(List.getElem?_eq_some_iff.1 hy).1
    have h2:=hel i (by omega)
    rw [hy,hc,Nat.mul_one] at h2
    obtain ⟨k,e1,e2,_⟩:=DataW.trod_int he h2
    rw [e2] at h1
    simp only [DataW.lit.injEq,Lit.int.injEq,true_and] at h1
    have h3 : (List.take 1 (List.drop i cs))[0]? = some (.int kd k):=by rw [e1]; rfl
    rw [List.getElem?_take,if_pos (by decide),List.getElem?_drop,Nat.add_zero,h1] at h3
    exact h3
theorem gRounds : Tryz.prog.globalNamed "engrosser/sha.rounds" = some 1:=by kernel_rfl
theorem gStart : Tryz.prog.globalNamed "engrosser/sha.start" = some 0:=by kernel_rfl
theorem gB32 : Tryz.prog.globalNamed "math/bits.deBruijn32tab" = some 2:=by kernel_rfl
theorem gB64 : Tryz.prog.globalNamed "math/bits.deBruijn64tab" = some 3:=by kernel_rfl
theorem tRounds : (Tryz.prog.globals[1]?).map (·.type) = some 265:=by kernel_rfl
theorem tStart : (Tryz.prog.globals[0]?).map (·.type) = some 214:=by kernel_rfl
theorem tB32 : (Tryz.prog.globals[2]?).map (·.type) = some 283:=by kernel_rfl
theorem tB64 : (Tryz.prog.globals[3]?).map (·.type) = some 284:=by kernel_rfl
theorem words_at {kd : IntKind} {W : World} {g : Nat} {cs : Array Value} {l : List Nat} (hc : ∀ i,W.cell? ⟨g,i,none⟩ = cs[i]?) (h : ∀ (i x : Nat),l[i]? = some x→cs.toList[i]? = some (.int kd (x : Int))) :
    ∃ vs,VRels (G0 W) (l.map fun (x : Nat)=>.v (.int kd (x : Int))) vs∧RoAt (G0 W) g 0 vs:=by
  refine ⟨l.map fun (x : Nat)=>.int kd (x : Int),?_,?_⟩
  · have:=VRels.vals (G:=G0 W) (l.map fun (x : Nat)=>Value.int kd (x : Int))
    rwa [List.map_map] at this
  · intro j u hu
    rw [List.getElem?_map] at hu
    cases hj : l[j]? with
    | none=>rw [hj] at hu; cases hu
    | some x =>
      rw [hj] at hu
      simp only [Option.map_some,Option.some.injEq] at hu
      have:=h j x hj
      show W.cell? ⟨g,0 + j,none⟩ = some u
      rw [Nat.zero_add,hc j,← hu]
      simpa using this
theorem of_laid {W : World} (h : laidMetH Tryz.prog laidD W) : ∀ g,∃ vs,VRels (G0 W) (Γd g) vs∧RoAt (G0 W) g 0 vs:=by
  rw [MakeChecks.laidMetH_plain _ _ _ (by kernel_rfl)] at h
  obtain ⟨ps,⟨g0,t0,cs0,f0,p0,q0,hg0,ht0,hv0,hd0,⟨g1,t1,cs1,f1,p1,q1,hg1,ht1,hv1,hd1,⟨g2,t2,cs2,f2,p2,q2,hg2,ht2,hv2,hd2,⟨g3,t3,cs3,f3,p3,q3,hg3,ht3,hv3,hd3,_,_⟩,_⟩,_⟩,_⟩,_,_⟩:=h
  obtain rfl:=Option.some.inj (gB32.symm.trans hg0)
  obtain rfl:=Option.some.inj (gB64.symm.trans hg1)
  obtain rfl:=Option.some.inj (gRounds.symm.trans hg2)
  obtain rfl:=Option.some.inj (gStart.symm.trans hg3)
  obtain rfl:=Option.some.inj (tB32.symm.trans ht0)
  obtain rfl:=Option.some.inj (tB64.symm.trans ht1)
  obtain rfl:=Option.some.inj (tRounds.symm.trans ht2)
  obtain rfl:=Option.some.inj (tStart.symm.trans ht3)
  have h2:=words_at (World.var?_cell hg0 hv0) (ints_of_trod (l:=dB32) Tryz.underlying283 Tryz.underlying5 T.c5 hd0)
  have h3:=words_at (World.var?_cell hg1 hv1) (ints_of_trod (l:=dB64) Tryz.underlying284 Tryz.underlying5 T.c5 hd1)
  have h1:=words_at (World.var?_cell hg2 hv2) (ints_of_trod (l:=Sha.K) Tryz.underlying265 Tryz.underlying213 T.c213 hd2)
  have h0:=words_at (World.var?_cell hg3 hv3) (ints_of_trod (l:=Sha.H0.list) Tryz.underlying214 Tryz.underlying213 T.c213 hd3)
  intro g
  by_cases e0 : g = 0
  · subst e0; exact h0
  · by_cases e1 : g = 1
    · subst e1; exact h1
    · by_cases e2 : g = 2
      · subst e2; exact h2
      · by_cases e3 : g = 3
        · subst e3; exact h3
        · refine ⟨[],?_,fun j u h=>by simp at h⟩
          simp [Γd,e0,e1,e2,e3,VRels]
theorem door_met (os : Os) (args : Array Value) : laidMetH Tryz.prog laidD ((World.doorLaid Tryz.prog 400 os).forCall (fun _ _=>0) ⟨#[],args,[]⟩).memory:=by
  rw [MakeChecks.laidMetH_plain _ _ _ (by kernel_rfl)]
  exact laidMet_of_run' 8 (by kernel_rfl) (by kernel_rfl)
end Go.Proofs.YtfjlmkifiihgkaaGreatDoor
namespace Go.Proofs.YtfjlmkifiihgkaaGreatDoor
set_option maxRecDepth 100000
def signs : List Char:=[Char.ofNat 104,Char.ofNat 97,Char.ofNat 114,Char.ofNat 110,Char.ofNat 101,Char.ofNat 115,Char.ofNat 115,Char.ofNat 32,Char.ofNat 101,Char.ofNat 52,Char.ofNat 98,Char.ofNat 56,Char.ofNat 52,Char.ofNat 98,Char.ofNat 50,Char.ofNat 56,Char.ofNat 55,Char.ofNat 57,Char.ofNat 102,Char.ofNat 55,Char.ofNat 99,Char.ofNat 97,Char.ofNat 97,Char.ofNat 100,Char.ofNat 51,Char.ofNat 52,Char.ofNat 101,Char.ofNat 49,Char.ofNat 53,Char.ofNat 55,Char.ofNat 53,Char.ofNat 51,Char.ofNat 102,Char.ofNat 100,Char.ofNat 48,Char.ofNat 48,Char.ofNat 54,Char.ofNat 98,Char.ofNat 98,Char.ofNat 51,Char.ofNat 49,Char.ofNat 49,Char.ofNat 52,Char.ofNat 52,Char.ofNat 98,Char.ofNat 52,Char.ofNat 52,Char.ofNat 53,Char.ofNat 99,Char.ofNat 98,Char.ofNat 101,Char.ofNat 52,Char.ofNat 55,Char.ofNat 101,Char.ofNat 98,Char.ofNat 100,Char.ofNat 100,Char.ofNat 99,Char.ofNat 100,Char.ofNat 50,Char.ofNat 56,Char.ofNat 102,Char.ofNat 48,Char.ofNat 53,Char.ofNat 53,Char.ofNat 57,Char.ofNat 55,Char.ofNat 101,Char.ofNat 100,Char.ofNat 49,Char.ofNat 48,Char.ofNat 98,Char.ofNat 32,Char.ofNat 99,Char.ofNat 117,Char.ofNat 116,Char.ofNat 32,Char.ofNat 97,Char.ofNat 116,Char.ofNat 32,Char.ofNat 101,Char.ofNat 110,Char.ofNat 103,Char.ofNat 114,Char.ofNat 111,Char.ofNat 115,Char.ofNat 115,Char.ofNat 101,Char.ofNat 114,Char.ofNat 47,Char.ofNat 101,Char.ofNat 110,Char.ofNat 103,Char.ofNat 114,Char.ofNat 111,Char.ofNat 115,Char.ofNat 115,Char.ofNat 101,Char.ofNat 114,Char.ofNat 108,Char.ofNat 97,Char.ofNat 119,Char.ofNat 50,Char.ofNat 48,Char.ofNat 46,Char.ofNat 82,Char.ofNat 97,Char.ofNat 116,Char.ofNat 99,Char.ofNat 104,Char.ofNat 101,Char.ofNat 116,Char.ofNat 65,Char.ofNat 99,Char.ofNat 116,Char.ofNat 115,Char.ofNat 32,Char.ofNat 101,Char.ofNat 110,Char.ofNat 103,Char.ofNat 114,Char.ofNat 111,Char.ofNat 115,Char.ofNat 115,Char.ofNat 101,Char.ofNat 114,Char.ofNat 47,Char.ofNat 101,Char.ofNat 110,Char.ofNat 103,Char.ofNat 114,Char.ofNat 111,Char.ofNat 115,Char.ofNat 115,Char.ofNat 101,Char.ofNat 114,Char.ofNat 108,Char.ofNat 97,Char.ofNat 119,Char.ofNat 50,Char.ofNat 48,Char.ofNat 46,Char.ofNat 82,Char.ofNat 97,Char.ofNat 116,Char.ofNat 99,Char.ofNat 104,Char.ofNat 101,Char.ofNat 116,Char.ofNat 82,Char.ofNat 111,Char.ofNat 119,Char.ofNat 115,Char.ofNat 32,Char.ofNat 101,Char.ofNat 110,Char.ofNat 103,Char.ofNat 114,Char.ofNat 111,Char.ofNat 115,Char.ofNat 115,Char.ofNat 101,Char.ofNat 114,Char.ofNat 47,Char.ofNat 101,Char.ofNat 110,Char.ofNat 103,Char.ofNat 114,Char.ofNat 111,Char.ofNat 115,Char.ofNat 115,Char.ofNat 101,Char.ofNat 114,Char.ofNat 108,Char.ofNat 97,Char.ofNat 119,Char.ofNat 50,Char.ofNat 52,Char.ofNat 46,Char.ofNat 80,Char.ofNat 117,Char.ofNat 98,Char.ofNat 108,Char.ofNat 105,Char.ofNat 99,Char.ofNat 78,Char.ofNat 101,Char.ofNat 120,Char.ofNat 116,Char.ofNat 32,Char.ofNat 101,Char.ofNat 110,Char.ofNat 103,Char.ofNat 114,Char.ofNat 111,Char.ofNat 115,Char.ofNat 115,Char.ofNat 101,Char.ofNat 114,Char.ofNat 47,Char.ofNat 101,Char.ofNat 110,Char.ofNat 103,Char.ofNat 114,Char.ofNat 111,Char.ofNat 115,Char.ofNat 115,Char.ofNat 101,Char.ofNat 114,Char.ofNat 108,Char.ofNat 97,Char.ofNat 119,Char.ofNat 50,Char.ofNat 52,Char.ofNat 46,Char.ofNat 80,Char.ofNat 117,Char.ofNat 98,Char.ofNat 108,Char.ofNat 105,Char.ofNat 99,Char.ofNat 70,Char.ofNat 111,Char.ofNat 108,Char.ofNat 100,Char.ofNat 115,Char.ofNat 32,Char.ofNat 101,Char.ofNat 110,Char.ofNat 103,Char.ofNat 114,Char.ofNat 111,Char.ofNat 115,Char.ofNat 115,Char.ofNat 101,Char.ofNat 114,Char.ofNat 47,Char.ofNat 101,Char.ofNat 110,Char.ofNat 103,Char.ofNat 114,Char.ofNat 111,Char.ofNat 115,Char.ofNat 115,Char.ofNat 101,Char.ofNat 114,Char.ofNat 108,Char.ofNat 97,Char.ofNat 119,Char.ofNat 50,Char.ofNat 52,Char.ofNat 46,Char.ofNat 80,Char.ofNat 117,Char.ofNat 98,Char.ofNat 108,Char.ofNat 105,Char.ofNat 99,Char.ofNat 82,Char.ofNat 101,Char.ofNat 97,Char.ofNat 100,Char.ofNat 115,Char.ofNat 32,Char.ofNat 101,Char.ofNat 110,Char.ofNat 103,Char.ofNat 114,Char.ofNat 111,Char.ofNat 115,Char.ofNat 115,Char.ofNat 101,Char.ofNat 114,Char.ofNat 47,Char.ofNat 101,Char.ofNat 110,Char.ofNat 103,Char.ofNat 114,Char.ofNat 111,Char.ofNat 115,Char.ofNat 115,Char.ofNat 101,Char.ofNat 114,Char.ofNat 108,Char.ofNat 97,Char.ofNat 119,Char.ofNat 50,Char.ofNat 52,Char.ofNat 46,Char.ofNat 80,Char.ofNat 117,Char.ofNat 98,Char.ofNat 108,Char.ofNat 105,Char.ofNat 99,Char.ofNat 83,Char.ofNat 116,Char.ofNat 97,Char.ofNat 116,Char.ofNat 101,Char.ofNat 115,Char.ofNat 32,Char.ofNat 101,Char.ofNat 110,Char.ofNat 103,Char.ofNat 114,Char.ofNat 111,Char.ofNat 115,Char.ofNat 115,Char.ofNat 101,Char.ofNat 114,Char.ofNat 47,Char.ofNat 101,Char.ofNat 110,Char.ofNat 103,Char.ofNat 114,Char.ofNat 111,Char.ofNat 115,Char.ofNat 115,Char.ofNat 101,Char.ofNat 114,Char.ofNat 108,Char.ofNat 97,Char.ofNat 119,Char.ofNat 51,Char.ofNat 48,Char.ofNat 46,Char.ofNat 65,Char.ofNat 117,Char.ofNat 100,Char.ofNat 105,Char.ofNat 116,Char.ofNat 82,Char.ofNat 101,Char.ofNat 112,Char.ofNat 108,Char.ofNat 97,Char.ofNat 121,Char.ofNat 115]
def headWords : List (List Char):=[[Char.ofNat 104,Char.ofNat 97,Char.ofNat 114,Char.ofNat 110,Char.ofNat 101,Char.ofNat 115,Char.ofNat 115],
  [Char.ofNat 101,Char.ofNat 52,Char.ofNat 98,Char.ofNat 56,Char.ofNat 52,Char.ofNat 98,Char.ofNat 50,Char.ofNat 56,Char.ofNat 55,Char.ofNat 57,Char.ofNat 102,Char.ofNat 55,Char.ofNat 99,Char.ofNat 97,Char.ofNat 97,Char.ofNat 100,Char.ofNat 51,Char.ofNat 52,Char.ofNat 101,Char.ofNat 49,Char.ofNat 53,Char.ofNat 55,Char.ofNat 53,Char.ofNat 51,Char.ofNat 102,Char.ofNat 100,Char.ofNat 48,Char.ofNat 48,Char.ofNat 54,Char.ofNat 98,Char.ofNat 98,Char.ofNat 51,Char.ofNat 49,Char.ofNat 49,Char.ofNat 52,Char.ofNat 52,Char.ofNat 98,Char.ofNat 52,Char.ofNat 52,Char.ofNat 53,Char.ofNat 99,Char.ofNat 98,Char.ofNat 101,Char.ofNat 52,Char.ofNat 55,Char.ofNat 101,Char.ofNat 98,Char.ofNat 100,Char.ofNat 100,Char.ofNat 99,Char.ofNat 100,Char.ofNat 50,Char.ofNat 56,Char.ofNat 102,Char.ofNat 48,Char.ofNat 53,Char.ofNat 53,Char.ofNat 57,Char.ofNat 55,Char.ofNat 101,Char.ofNat 100,Char.ofNat 49,Char.ofNat 48,Char.ofNat 98],
  [Char.ofNat 99,Char.ofNat 117,Char.ofNat 116],
  [Char.ofNat 97,Char.ofNat 116],
  [Char.ofNat 101,Char.ofNat 110,Char.ofNat 103,Char.ofNat 114,Char.ofNat 111,Char.ofNat 115,Char.ofNat 115,Char.ofNat 101,Char.ofNat 114,Char.ofNat 47,Char.ofNat 101,Char.ofNat 110,Char.ofNat 103,Char.ofNat 114,Char.ofNat 111,Char.ofNat 115,Char.ofNat 115,Char.ofNat 101,Char.ofNat 114,Char.ofNat 108,Char.ofNat 97,Char.ofNat 119,Char.ofNat 50,Char.ofNat 48,Char.ofNat 46,Char.ofNat 82,Char.ofNat 97,Char.ofNat 116,Char.ofNat 99,Char.ofNat 104,Char.ofNat 101,Char.ofNat 116,Char.ofNat 65,Char.ofNat 99,Char.ofNat 116,Char.ofNat 115],
  [Char.ofNat 101,Char.ofNat 110,Char.ofNat 103,Char.ofNat 114,Char.ofNat 111,Char.ofNat 115,Char.ofNat 115,Char.ofNat 101,Char.ofNat 114,Char.ofNat 47,Char.ofNat 101,Char.ofNat 110,Char.ofNat 103,Char.ofNat 114,Char.ofNat 111,Char.ofNat 115,Char.ofNat 115,Char.ofNat 101,Char.ofNat 114,Char.ofNat 108,Char.ofNat 97,Char.ofNat 119,Char.ofNat 50,Char.ofNat 48,Char.ofNat 46,Char.ofNat 82,Char.ofNat 97,Char.ofNat 116,Char.ofNat 99,Char.ofNat 104,Char.ofNat 101,Char.ofNat 116,Char.ofNat 82,Char.ofNat 111,Char.ofNat 119,Char.ofNat 115],
  [Char.ofNat 101,Char.ofNat 110,Char.ofNat 103,Char.ofNat 114,Char.ofNat 111,Char.ofNat 115,Char.ofNat 115,Char.ofNat 101,Char.ofNat 114,Char.ofNat 47,Char.ofNat 101,Char.ofNat 110,Char.ofNat 103,Char.ofNat 114,Char.ofNat 111,Char.ofNat 115,Char.ofNat 115,Char.ofNat 101,Char.ofNat 114,Char.ofNat 108,Char.ofNat 97,Char.ofNat 119,Char.ofNat 50,Char.ofNat 52,Char.ofNat 46,Char.ofNat 80,Char.ofNat 117,Char.ofNat 98,Char.ofNat 108,Char.ofNat 105,Char.ofNat 99,Char.ofNat 78,Char.ofNat 101,Char.ofNat 120,Char.ofNat 116],
  [Char.ofNat 101,Char.ofNat 110,Char.ofNat 103,Char.ofNat 114,Char.ofNat 111,Char.ofNat 115,Char.ofNat 115,Char.ofNat 101,Char.ofNat 114,Char.ofNat 47,Char.ofNat 101,Char.ofNat 110,Char.ofNat 103,Char.ofNat 114,Char.ofNat 111,Char.ofNat 115,Char.ofNat 115,Char.ofNat 101,Char.ofNat 114,Char.ofNat 108,Char.ofNat 97,Char.ofNat 119,Char.ofNat 50,Char.ofNat 52,Char.ofNat 46,Char.ofNat 80,Char.ofNat 117,Char.ofNat 98,Char.ofNat 108,Char.ofNat 105,Char.ofNat 99,Char.ofNat 70,Char.ofNat 111,Char.ofNat 108,Char.ofNat 100,Char.ofNat 115],
  [Char.ofNat 101,Char.ofNat 110,Char.ofNat 103,Char.ofNat 114,Char.ofNat 111,Char.ofNat 115,Char.ofNat 115,Char.ofNat 101,Char.ofNat 114,Char.ofNat 47,Char.ofNat 101,Char.ofNat 110,Char.ofNat 103,Char.ofNat 114,Char.ofNat 111,Char.ofNat 115,Char.ofNat 115,Char.ofNat 101,Char.ofNat 114,Char.ofNat 108,Char.ofNat 97,Char.ofNat 119,Char.ofNat 50,Char.ofNat 52,Char.ofNat 46,Char.ofNat 80,Char.ofNat 117,Char.ofNat 98,Char.ofNat 108,Char.ofNat 105,Char.ofNat 99,Char.ofNat 82,Char.ofNat 101,Char.ofNat 97,Char.ofNat 100,Char.ofNat 115],
  [Char.ofNat 101,Char.ofNat 110,Char.ofNat 103,Char.ofNat 114,Char.ofNat 111,Char.ofNat 115,Char.ofNat 115,Char.ofNat 101,Char.ofNat 114,Char.ofNat 47,Char.ofNat 101,Char.ofNat 110,Char.ofNat 103,Char.ofNat 114,Char.ofNat 111,Char.ofNat 115,Char.ofNat 115,Char.ofNat 101,Char.ofNat 114,Char.ofNat 108,Char.ofNat 97,Char.ofNat 119,Char.ofNat 50,Char.ofNat 52,Char.ofNat 46,Char.ofNat 80,Char.ofNat 117,Char.ofNat 98,Char.ofNat 108,Char.ofNat 105,Char.ofNat 99,Char.ofNat 83,Char.ofNat 116,Char.ofNat 97,Char.ofNat 116,Char.ofNat 101,Char.ofNat 115],
  [Char.ofNat 101,Char.ofNat 110,Char.ofNat 103,Char.ofNat 114,Char.ofNat 111,Char.ofNat 115,Char.ofNat 115,Char.ofNat 101,Char.ofNat 114,Char.ofNat 47,Char.ofNat 101,Char.ofNat 110,Char.ofNat 103,Char.ofNat 114,Char.ofNat 111,Char.ofNat 115,Char.ofNat 115,Char.ofNat 101,Char.ofNat 114,Char.ofNat 108,Char.ofNat 97,Char.ofNat 119,Char.ofNat 51,Char.ofNat 48,Char.ofNat 46,Char.ofNat 65,Char.ofNat 117,Char.ofNat 100,Char.ofNat 105,Char.ofNat 116,Char.ofNat 82,Char.ofNat 101,Char.ofNat 112,Char.ofNat 108,Char.ofNat 97,Char.ofNat 121,Char.ofNat 115]]
theorem initS : Tryz.prog.initOrder = String.ofList signs:=by kernel_rfl
theorem words : wordsSigns Tryz.prog.initOrder.toList = headWords:=by
  rw [initS,String.toList_ofList]
  kernel_rfl
theorem both {a b : Bool} (h : a = true) (k : b = true) : (a && b) = true:=by rw [h,k]; rfl
theorem same_of {a b : Bool} (h : b = a) : (a == b) = true:=by rw [h]; cases a <;> rfl
theorem make_of {a b : Option Make} (h : a = b) : (a == b) = true:=by rw [h]; exact beq_self_eq_true _
theorem strip_cut (r : List (List Char)) : stripLifts liftWords ("cut".toList :: r) = ([], "cut".toList :: r):=by kernel_rfl
theorem lifts_cut {P : Program} {r} (h : behindMainWord (wordsSigns P.initOrder.toList) = "cut".toList :: r) : P.headLifts = []:=by
  unfold Program.headLifts
  rw [h,strip_cut]
  kernel_rfl
theorem make_cut {P : Program} {r} (h : behindMainWord (wordsSigns P.initOrder.toList) = "cut".toList :: r) : P.make = some .cut:=by
  unfold Program.make
  rw [h,lifts_cut h]
  kernel_rfl
theorem final_cut {P : Program} {r} (h : behindMainWord (wordsSigns P.initOrder.toList) = "cut".toList :: r) : P.liftsFinal = false:=by
  unfold Program.liftsFinal
  rw [h,lifts_cut h]
  kernel_rfl
theorem main_har {P : Program} {s r} (h : wordsSigns P.initOrder.toList = "harness".toList :: s :: r) (hs : isSumSigns s = true) : P.mainIs = some (true,s):=by
  unfold Program.mainIs
  rw [h]
  dsimp only
  rw [hs]
  kernel_rfl
theorem may_cut {P : Program} {r} (h : behindMainWord (wordsSigns P.initOrder.toList) = "cut".toList :: r) (hl : P.laysLater = false) (hr : P.bearsReflect = false) (hd : P.doorFits [] = true) : P.mayEnter = true:=by
  unfold Program.mayEnter
  rw [h,hl,hr]
  dsimp only
  rw [strip_cut]
  dsimp only
  rw [hd]
  kernel_rfl
theorem behind : behindMainWord (wordsSigns Tryz.prog.initOrder.toList) = "cut".toList :: headWords.drop 3:=(congrArg behindMainWord words).trans (by kernel_rfl)
theorem headMake : Tryz.prog.make = some .cut:=make_cut behind
theorem headMain : Tryz.prog.mainIs = some (true, "e4b84b2879f7caad34e15753fd006bb31144b445cbe47ebddcd28f05597ed10b".toList):=main_har (r:=headWords.drop 2) (words.trans (by kernel_rfl)) (by kernel_rfl)
theorem headMay : Tryz.prog.mayEnter = true:=may_cut behind (by kernel_rfl) (by kernel_rfl) (by kernel_rfl)
theorem headFin : Tryz.prog.liftsFinal = false:=final_cut behind
end Go.Proofs.YtfjlmkifiihgkaaGreatDoor
