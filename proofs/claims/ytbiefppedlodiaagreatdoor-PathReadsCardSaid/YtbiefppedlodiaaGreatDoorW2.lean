/- Contracts of functions, each walked once; each theorem states its conditions. -/
import Derived.Test.YtbiefppedlodiaaGreatDoorAMp6
import Derived.Test.YtbiefppedlodiaaGreatDoorW1
import Derived.Test.YtbiefppedlodiaaGreatDoorAMp4
import Derived.Test.YtbiefppedlodiaaGreatDoorAMp3
import Derived.Test.YtbiefppedlodiaaGreatDoorAMp5
set_option linter.unusedSimpArgs false
set_option linter.unusedVariables false
open Nat renaming reduceLT → Na, reduceLeDiff → Nb, reduceEqDiff → Nc, reduceAdd → Nk, reduceMul → Nf, reducePow → Ng, reduceSub → Nh, reduceBEq → Nz
open Int renaming reduceLT → Za, reduceLE → Zb, reduceToNat → Zc
open And renaming intro → Ai
open Go.AM renaming ashift → Qa, aconv → Qb, aindexAddr → Qc, aindex → Qd, aslice → Qe, abuiltin → Qf, awp_reg_seq → wS, awp_reg_end → wE, awp_seq_k → wK, awp_cond_k → wC
open Go.AM.AV renaming cells → Qg, one → Qh
set_option maxRecDepth 100000
set_option maxHeartbeats 8000000
namespace Go.Proofs.YtbiefppedlodiaaGreatDoor
open Go Go.AM Go.Proofs Tryz
variable {Γ : Nat→List AV}
def P8 (s s' : AS) (r : AV) (l : List Int) : Prop:=m6 1 s' r l.length (l.map aV)∧(l = []→r = bZ)∧(∀ o,wg r = some o→s.aq o = none)∧s.le s'
def xdj (s : AS) (o1 : Nat) (l : List Int) (s' : AS) : Prop:=∃ x,s'.aq o1 = some [x]∧P8 s s' x l∧wg x≠some o1
theorem xc {gf : FuncId} {cd : List AV} {l : List Int} (Lc : af prog gf = true) (Ld : v8 prog Γ gf cd (l.map fun v=>[aV v])) (hl : l.length≤2 ^ 40) (s : AS) :
  ah prog Γ 192 [bZ,.qK gf cd] s (fun r s'=>P8 s s' r l):=by
 refine yF func192 rfl ntmps192 results192 (by simp) ?_;unfold bZ;refine qA ?_;intro K hK;refine jM ?_;intro o1 h1;refine hK _ _ ?_;clear hK K;refine rf (by decide) ?_;intro K hK;refine jR hK ?_;clear hK K;refine ⟨gf,cd,l.map fun v=>[aV v],fun i s'=>xdj s o1 (l.take i) s',by simp only [aI,aF,br,List.getD_cons_zero,List.getD_cons_succ,Nc,↓reduceIte],Lc,Ld,by simp,?_,?_,?_⟩
 ·refine ⟨bZ,by simp [AS.set,bZ],⟨.inl ⟨by simp,by simp,.inl rfl⟩,fun _=>rfl,by simp [bZ,wg],AS.aB (AS.le.refl s) h1 _⟩,by simp [bZ,wg]⟩
 ·rintro i x s1 hx ⟨b,BG,⟨qx,qL,ln,hle⟩,dp⟩;obtain ⟨v,hv,rfl⟩ : ∃ v,l[i]? = some v∧x = [aV v]:=by
   rw [List.getElem?_map] at hx;cases hh : l[i]? with
   | none=>rw [hh] at hx; cases hx
   | some v=>rw [hh] at hx; cases hx; exact ⟨v,rfl,rfl⟩
  have hi : i < l.length:=(List.getElem?_eq_some_iff.1 hv).1;have hlen : (l.take i).length = i:=(by simp; omega);have lY : b.one = true:=by
   rcases qx with ⟨_,_,rfl | rfl | rfl⟩ | ⟨_,_,_,rfl,_⟩ <;> rfl
  simp only [Ay];refine jC ?_;refine ⟨rfl,al ?_⟩;refine wW rfl (by decide) ?_;intro ops;refine jN @BG ?_;rw [hlen] at qx;refine ⟨_,fun G a w hr=>lF (n:=i) (m:=1) (cs:=(l.take i).map aV) (ds:=[aV v]) (e:=3) (z:=[.v (.int .i64 0)]) rfl underlying24 (by simp only [↓DN,Qa,Qb,Qc,Qd,Qe,Qf,Qg,Qh,reduceCtorEq,↓reduceIte,Na,Nb,Nc,Nk,Nf,Ng,Nh,Za,Zb,Zc,TT]; try rfl) (by simp only [↓DN,Qa,Qb,Qc,Qd,Qe,Qf,Qg,Qh,reduceCtorEq,↓reduceIte,Na,Nb,Nc,Nk,Nf,Ng,Nh,Za,Zb,Zc,TT]; try rfl) (by rw [T.c3]; decide) (by rw [T.c3]; rfl) (by rw [T.c3]; simp only [↓DN,Qa,Qb,Qc,Qd,Qe,Qf,Qg,Qh,reduceCtorEq,↓reduceIte,Na,Nb,Nc,Nk,Nf,Ng,Nh,Za,Zb,Zc,TT,iO,aI,aF,Nc,↓reduceIte]; rfl) (by decide) (by rw [T.b3]; omega) (by omega) rfl (by rw [T.c3]; simpa only [aI,aF,Nc,↓reduceIte] using qx) hr.eval hr.st,?_⟩;rw [T.c3];rintro r s4 ⟨ob,cap,rest,rfl,ib,Ep,uS,T8,rfl⟩;simp only [aI,aF,Nc,↓reduceIte] at T8;have T9 : o1≠ob:=by
   rintro rfl;rcases T8 with h | ⟨rQ,rfl⟩
   ·rw [BG] at h; cases h
   ·exact dp rfl
  have R8 : s.aq ob = none:=by
   rcases T8 with h | ⟨rQ,rfl⟩
   ·exact AS.le_none hle h
   ·exact ln ob rfl
  have ft : (l.take i).map aV ++ [aV v] = (l.take (i + 1)).map aV:=by
   rw [List.take_add_one,hv];simp
  rw [ft];have hso : (s1.set ob ((l.take (i + 1)).map aV ++ rest)).aq o1 = some [b]:=by
   rw [AS.ae _ T9];exact BG
  refine jN @hso ?_;refine ⟨_,AS.aa _ _ _,⟨.inr ⟨ob,cap,rest,by rw [show (l.take (i + 1)).length = i + 1 by simp; omega],?_,by simp,by rw [show (l.take (i + 1)).length = i + 1 by simp; omega]; exact uS,by rw [show (l.take (i + 1)).length = i + 1 by simp; omega]; exact ib,Ep⟩,?_,?_,AS.aB (AS.aB hle R8 _) h1 _⟩,?_⟩
  ·rw [AS.ae _ T9.symm,AS.aa]
  ·intro h;have:=congrArg List.length h;rw [List.length_take,List.length_nil] at this;omega
  ·intro o h;simp only [wg,Option.some.injEq] at h;rw [← h];exact R8
  ·simp only [wg,ne_eq,Option.some.injEq];exact T9.symm
 ·rintro s2 ⟨x,hx1,Vg,-⟩;rw [List.length_map,List.take_length] at Vg;refine jB @hx1 ?_;refine jI ?_;exact ⟨_,_,AV.aA.refl _,AS.le.refl _,Vg⟩
theorem AJ {gf : FuncId} {cd : List AV} {l : List Int} (Lc : af prog gf = true) (Ld : v8 prog Γ gf cd (l.map fun v=>[aV v])) (hl : l.length≤2 ^ 40) (s : AS) :
  ah prog Γ 158 [.qK gf cd] s (fun r s'=>P8 s s' r l):=by
 refine ab func158 rfl ntmps158 results158 (by simp) ?_;refine jA ?_;refine jQ fun K hK=>?_;refine ad (xc Lc Ld hl _) ?_;rintro r s2 h2;refine jR hK ?_;clear hK K;refine jI ?_;exact ⟨_,_,AV.aA.refl _,AS.le.refl _,h2⟩
theorem y8 (s : AS) : ah prog Γ 230 [.v (.int .u64 0)] s (fun r s'=>(∃ k : Int,r = .v (.int .i64 k))∧s' = s):=by
 refine ab func230 rfl ntmps230 results230 (by simp) ?_;refine jA ?_;refine wK fun K hK=>?_;refine jA ?_;refine jF ?_;refine ag ?_;refine hK _ _ ?_;clear hK K;refine wK fun K hK=>?_;refine jA ?_;refine jF ?_;refine ag ?_;refine hK _ _ ?_;clear hK K;refine wK fun K hK=>?_;refine jA ?_;refine jF ?_;refine ag ?_;refine hK _ _ ?_;clear hK K;refine jA ?_;refine jI ?_;exact ⟨_,_,AV.aA.refl _,AS.le.refl _,⟨_,rfl⟩,rfl⟩
theorem Dn (s : AS) : ah prog Γ 194 [.v (.int .u64 0)] s (fun r s'=>(∃ k : Int,r = .v (.int .i64 k))∧s' = s):=by
 refine ab func194 rfl ntmps194 results194 (by simp) ?_;refine jA ?_;refine wK fun K hK=>?_;refine jF ?_;refine ag ?_;refine hK _ _ ?_;clear hK K;refine jQ fun K hK=>?_;refine ad (y8 _) ?_;rintro r s2 ⟨⟨k,rfl⟩,rfl⟩;refine jR hK ?_;clear hK K;refine jI ?_;exact ⟨_,_,AV.aA.refl _,AS.le.refl _,⟨_,rfl⟩,rfl⟩
theorem Dp (s : AS) : ah prog Γ 220 [bZ,.v (.int .i64 0),.v (.int .i64 0)] s (fun r s'=>r = .eJ []∧s' = s):=by
 refine ab func220 rfl ntmps220 results220 (by simp) ?_;refine jA ?_;refine al ?_;refine aE (fun E s'=>E 2 = .v (.int .i64 0)∧E 6 = .v (.int .i64 1)∧s' = s) (fun _ _=>0) ⟨rfl,rfl,rfl⟩ ?_;rintro E s' ⟨e2,e6,rfl⟩ -
 refine wK fun K2 aW=>?_;refine jB (Ai @e2 @e6) ?_;refine jF ?_;refine aC ?_;simp only [az,aw,if_true];simp only [cn,bz,bD,dy,List.toList_toArray,↓a8]; try simp only [UP,DF,Nc,↓reduceIte,DT]
 exact jW ⟨rfl,rfl⟩
theorem Dq (k : Int) (s : AS) : ah prog Γ 193 [bZ,.v (.int .i64 0),.v (.int .i64 0),.v (.int .i64 k)] s (fun r s'=>r = .eJ []∧s' = s):=by
 refine ab func193 rfl ntmps193 results193 (by simp) ?_;unfold bZ;refine jA ?_;refine jA ?_;refine al ?_;refine aE (fun E s'=>E 0 = .v (.slice none 0 0)∧E 1 = .v (.int .i64 0)∧E 2 = .v (.int .i64 0)∧s' = s) (fun _ _=>0) ⟨rfl,rfl,rfl,rfl⟩ ?_;rintro E s' ⟨e0,e1,e2,rfl⟩ -
 refine al ?_;refine jB (Ai @e1 @e2) ?_;refine wK fun K2 aW=>?_;refine jB (Ai (show eC .i64 0 0 = (0 : Int) from rfl) (show (decide ((0 : Int)≤12)) = true from rfl)) ?_;refine jE ?_;refine jS (Ai @e0 (Ai @e1 @e2)) fun K hK=>?_;refine ad (Dp _) ?_;rintro r s2 ⟨rfl,rfl⟩;refine jR hK ?_;clear hK K;refine a7 ?_;simp only [az,aw];simp only [cn,bz,bD,dy,List.toList_toArray,↓a8]; try simp only [UP,DF,Nc,↓reduceIte,DT]
 exact jW ⟨rfl,rfl⟩
theorem AK (s : AS) : ah prog Γ 159 [bZ] s (fun r s'=>r = .eJ []∧s' = s):=by
 refine ab func159 rfl ntmps159 results159 (by simp) ?_;unfold bZ;refine jA ?_;refine jT fun K hK=>?_;refine ad (Dn _) ?_;rintro r s2 ⟨⟨k,rfl⟩,rfl⟩;refine jM ?_;refine ad (Dq k _) ?_;rintro r s3 ⟨rfl,rfl⟩;refine jR hK ?_;clear hK K;simp only [cn,bz,bD,dy,List.toList_toArray,↓a8]; try simp only [UP,DF,Nc,↓reduceIte,DT]
 exact jW ⟨rfl,rfl⟩
theorem Dr {gf : FuncId} {cd : List AV} {l : List Int} (Lc : af prog gf = true) (Ld : v8 prog Γ gf cd (l.map fun v=>[aV v])) (hl : l.length≤2 ^ 40) (s : AS) :
  ah prog Γ 111 [.qK gf cd] s (fun r s'=>P8 s s' r (l.mergeSort fun x y=>decide (x≤y))):=by
 refine ab func111 rfl ntmps111 results111 (by simp) ?_;refine jA ?_;refine jQ fun K hK=>?_;refine ad (AJ Lc Ld hl _) ?_;rintro r s2 ⟨qx,qL,ln,hle⟩;rcases List.eq_nil_or_concat l with rfl | ⟨l',v,PT⟩
 ·obtain rfl:=qL rfl;refine jR hK ?_;clear hK K;refine jK (AK _) ?_;rintro s3 rfl;refine jA ?_;refine jI ?_;exact jW ⟨by simpa using qx,fun _=>rfl,ln,hle⟩
 ·have yo : 0 < l.length:=(by rw [PT]; simp);have uq : (l.mergeSort fun x y=>decide (x≤y)).length = l.length:=(by simp);rcases qx with ⟨h0,_,_⟩ | ⟨o,cap,rest,rfl,ho,gy,uS,Em,Ep⟩
  ·omega
  ·refine jR hK ?_;clear hK K;refine jK (Mw (by omega) ho) ?_;rintro s3 rfl;refine jA ?_;refine jI ?_;have hn : s.aq o = none:=ln o rfl;refine ⟨_,_,AV.aA.refl _,AS.le.refl _,.inr ⟨o,cap,rest,by rw [uq],AS.aa _ _ _,by simp,by rw [uq]; exact uS,by rw [uq]; exact Em,Ep⟩,?_,ln,AS.aB hle hn _⟩;intro h;rw [h] at uq;simp only [List.length_nil] at uq;omega
end Go.Proofs.YtbiefppedlodiaaGreatDoor
namespace Go.AM
open Go Go.RowKit
def cC (n : Nat) : Nat:=if n < rS n then rS n + hf (rS n) else rS n - hf (rS n)
theorem BW {n l : Nat} (hl : Fit l) (h : n < 2 * l - 1) (hr : n≠l - 1) : rS n < 63∧lv (rS n)≠0∧hf (rS n)≤rS n∧(n < rS n↔rS n - hf (rS n) = n)∧cC n < 2 * l - 1:=by
  obtain ⟨m,hm,rfl⟩:=hl.pow;exact ((by decide +kernel : ∀ m≤5,∀ n < 2 * 2 ^ m - 1,n = 2 ^ m - 1∨(rS n < 63∧lv (rS n)≠0∧hf (rS n)≤rS n∧(n < rS n↔rS n - hf (rS n) = n)∧cC n < 2 * 2 ^ m - 1)) m hm n h).resolve_left hr
theorem MS {u : Nat} (hu : u < 63) (h0 : lv u≠0) (hh : hf u≤u) : mw (u : Int) = some (((u - hf u : Nat) : Int),((u + hf u : Nat) : Int)):=by
  unfold mw;rw [qE hu,if_neg h0];simp only [hf] at hh ⊢;simp only [Option.some.injEq,Prod.mk.injEq];omega
theorem y4 {leaf l : Nat} (hl : Fit l) (h : leaf < l) {i : Nat} (hi : i < (aH leaf l).length) : nodeAt leaf l i < 2 * l - 1∧nodeAt leaf l i≠l - 1∧rS (nodeAt leaf l i) = (aH leaf l).getD i 0:=by
  obtain ⟨m,hm,rfl⟩:=hl.pow;exact (by decide +kernel : ∀ m≤5,∀ leaf < 2 ^ m,∀ i < (aH leaf (2 ^ m)).length,nodeAt leaf (2 ^ m) i < 2 * 2 ^ m - 1∧nodeAt leaf (2 ^ m) i≠2 ^ m - 1∧rS (nodeAt leaf (2 ^ m) i) = (aH leaf (2 ^ m)).getD i 0) m hm leaf h i hi
def cR (leaf l : Nat) : List Nat:=(List.range (aH leaf l).length).map fun i=>cC (nodeAt leaf l i)
end Go.AM
namespace Go.Proofs.YtbiefppedlodiaaGreatDoor
open Go Go.AM Go.Proofs Tryz
variable {Γ : Nat→List AV}
theorem y9 (hG : Γ 3 = fM.map pg) (n l : Nat) (hl : Fit l) (hn : n < 2 * l - 1) (hr : n≠l - 1) (s : AS) : ah prog Γ 105 [.v (.int .i64 n),.v (.int .i64 l)] s
  (fun r s'=>r = .eJ [.v (.int .i64 ((cC n : Nat) : Int)),.v (.bool true)]∧s' = s):=by
 refine ab func105 rfl ntmps105 results105 (by simp) ?_;have PT:=hl.le;obtain ⟨u1,u2,u3,u4,u5⟩:=BW hl hn hr;have Ek:=fun s=>mP (Γ:=Γ) hG n l hl hn s;rw [show rT n l = some (rS n) from if_neg hr] at Ek;simp only [Option.getD_some,Option.isSome_some] at Ek;have I6:=fun s=>mO (Γ:=Γ) hG (rS n : Int) (by omega) s;have hle:=fun s=>iC (Γ:=Γ) hG (rS n : Int) (by omega) s;rw [MS u1 u2 u3] at I6 hle;unfold cC;generalize rS n = u at *
 refine jA ?_;refine jK (Ek _) ?_;rintro s1 rfl;refine wK fun K hK=>?_;refine jA ?_;refine jF ?_;refine ag ?_;refine hK _ _ ?_;clear hK K;refine wK fun K hK=>?_;by_cases h : n < u
 ·refine jB (decide_eq_true (show ((n : Nat) : Int) < (u : Int) by omega)) ?_;refine jE ?_;refine jK (I6 _) ?_;rintro s2 rfl;rw [if_pos h];exact jJ
 ·refine jB (decide_eq_false (show ¬ ((n : Nat) : Int) < (u : Int) by omega)) ?_;refine jF ?_;refine ag ?_;refine hK _ _ ?_;clear hK K;refine jK (hle _) ?_;rintro s2 rfl;rw [if_neg h];exact jJ
theorem wq (l : List UInt8) (sp : Sp) (ha : sp.isAny = false) (s : AS) (hl : l.length≤2 ^ 45) : ah prog Γ 90 [aj l sp] s (fun r s'=>r = aj l .any∧s' = s):=by
 refine ab func90 rfl ntmps90 results90 (by simp) ?_;unfold aj;refine jA ?_;refine wK fun K hK=>?_;refine jB (Ai @ha @and_false) ?_;refine jF ?_;refine ag ?_;refine hK _ _ ?_;clear hK K;by_cases h0 : l.length = 0
 ·have ur : l = []:=List.eq_nil_of_length_eq_zero h0;subst ur;refine jA ?_;refine a7 ?_;simp only [↓DN,Qa,Qb,Qc,Qd,Qe,Qf,Qg,Qh,reduceCtorEq,↓reduceIte,Na,Nb,Nc,Nk,Nf,Ng,Nh,Za,Zb,Zc,TT,cn,bz,bD,dy,eD];exact ⟨_,s,AV.bJ,AS.le.refl s,rfl,rfl⟩
 ·refine jS @h0 fun K hK=>?_;refine ⟨by omega,by omega,fun t ht=>hK _ _ ?_⟩;clear hK K;refine a7 ?_;simp only [↓DN,Qa,Qb,Qc,Qd,Qe,Qf,Qg,Qh,reduceCtorEq,↓reduceIte,Na,Nb,Nc,Nk,Nf,Ng,Nh,Za,Zb,Zc,TT,cn,bz,bD,dy,eD];exact ⟨_,s,AV.bJ,AS.bG (AS.le.refl s) ht 0,rfl,rfl⟩
theorem Ds (s0 s : AS) (p : Nat) (l : List UInt8) (n size : Nat) (hn : n < 2 ^ 64) (hs : size≤8) (hl : l.length + 8≤2 ^ 45) (h : xu s0 s p l false) :
  ah prog Γ 133 [.ptr p 0,.v (.int .u64 n),.v (.int .i64 size)] s (fun r s'=>r = .eJ []∧xu s0 s' p (l ++ be size n) false):=by
 refine ab func133 rfl ntmps133 results133 (by simp) ?_;refine jA ?_;refine al ?_;refine aE (fun E s1=>∃ (i : Int) (l' : List UInt8),E 6 = .v (.int .i64 i)∧-1≤i∧i < size∧E 0 = .ptr p 0∧E 1 = .v (.int .u64 n)∧xu s0 s1 p l' false∧l' ++ be (i + 1).toNat n = l ++ be size n)
  (fun E _=>match E 6 with | .v (.int _ i)=>(i + 1).toNat | _=>0) ?_ ?_
 ·refine ⟨size - 1,l,?_,by omega,by omega,by simp [aF,br],by simp [aF,br],h,by congr 2; omega⟩;simp [aF,dM (show -9223372036854775808≤(size : Int) - 1∧(size : Int) - 1≤9223372036854775807 by omega)]
 ·rintro E1 s1 ⟨i,l',h6,hi1,im,h0,h1,hp,PT⟩ -
  obtain ⟨x,hx,hb⟩:=hp.obj;refine wK fun K hK=>?_;by_cases hi : 0≤i
  ·refine jB (Ai @h6 (Ai @h0 (Ai @h1 (Ai @hx (decide_eq_true hi))))) ?_;refine jE ?_;refine ag ?_;refine hK _ _ ?_;clear hK K;refine wK fun K hK=>?_;refine al ?_;have hmul : lj .i64 8 i = 8 * i:=fc (by omega);have ZH : ¬ (8 * i < 0):=(by omega);obtain ⟨j,rfl⟩:=Int.eq_ofNat_of_zero_le hi;have hj : j < 8:=(by omega);have eN:=Pm n j hj;have OV : be ((j : Int) + 1).toNat n = UInt8.ofNat (n / 2 ^ (8 * j)) :: be j n:=by
    rw [show ((j : Int) + 1).toNat = j + 1 from by omega]; rfl
   have hlen : l'.length≤l.length + size:=by
    have:=congrArg List.length PT;simp at this;omega
   have p8 : eC .i64 (j : Int) 1 = (j : Int) - 1:=dM (by omega);have cW : ∀ (E2 : Env) (s2 : AS),E2 6 = .v (.int .i64 j)→E2 0 = .ptr p 0→E2 1 = .v (.int .u64 n)→xu s0 s2 p (l' ++ [UInt8.ofNat (n / 2 ^ (8 * j))]) false→K E2 s2:=by
    intro E2 s2 e6 e0 e1 pM;refine hK _ _ ?_;clear hK K;refine jD (Ai @e6 @p8) ?_;refine ⟨⟨(j : Int) - 1,_,rfl,by omega,by omega,e0,e1,pM,?_⟩,?_⟩
    ·rw [← PT,OV];simp
    ·simp only [h6,aF,↓reduceIte];omega
   clear hK;rcases hb with ⟨rfl,ur⟩ | ⟨t,e,rfl,ht,gM⟩
   ·subst ur;refine eK T.mixed [4,11,14] (by kernel_rfl) ?_;intro K hK;simp only [↓DM,bL,DX,Nz,↓DN,Qa,Qb,Qc,Qd,Qe,Qf,Qg,Qh,reduceCtorEq,↓reduceIte,Na,Nb,Nc,Nk,Nf,Ng,Nh,Za,Zb,Zc,TT,h6,h0,h1,hx,bZ,hmul,ZH,List.replicate_succ];intro t ht;refine hK _ _ (cW _ _ h6 h0 h1 ?_);rw [eN];exact hp.one ht _
   ·refine eK T.mixed [4,11,14] (by kernel_rfl) ?_;intro K hK;simp only [↓DM,bL,DX,Nz,↓DN,Qa,Qb,Qc,Qd,Qe,Qf,Qg,Qh,reduceCtorEq,↓reduceIte,Na,Nb,Nc,Nk,Nf,Ng,Nh,Za,Zb,Zc,TT,h6,h0,h1,hx,aj,hmul,ZH,ht,List.replicate_succ];refine ⟨by omega,by omega,hK _ _ (cW _ _ h6 h0 h1 ?_)⟩;rw [eN];exact hp.more gM [_] rfl rfl
  ·have ic : i = -1:=(by omega);subst ic;refine jB (Ai @h6 (Ai @h0 (Ai @h1 @hx))) ?_;refine jF ?_;refine aC ?_;simp only [az,aw,if_true,cn,bz,bD,eD,List.toList_toArray];refine ⟨_,s1,AV.aA.refl _,AS.le.refl _,rfl,?_⟩;have : l' = l ++ be size n:=(by simpa [be] using PT);rw [← this];exact hp
theorem HN (s0 s : AS) (p : Nat) (l : List UInt8) (n size : Int) (hs : 0≤size∧size≤8) (h : xu s0 s p l true) :
  ah prog Γ 133 [.ptr p 0,.v (.int .u64 n),.v (.int .i64 size)] s (fun r s'=>r = .eJ []∧xu s0 s' p l true):=by
 refine ab func133 rfl ntmps133 results133 (by simp) ?_;obtain ⟨x,hx,hb⟩:=h.obj;have p8 : eC .i64 size 1 = size - 1:=dM (by omega);refine jB @p8 ?_;refine al ?_;refine aE (fun E s1=>E 6 = .v (.int .i64 (size - 1))∧E 0 = .ptr p 0∧s1 = s) (fun _ _=>0) ?_ ?_
 ·exact ⟨by simp [aF],by simp [aF,br],rfl⟩
 ·rintro E1 s1 ⟨h6,h0,rfl⟩ -
  refine wK fun K hK=>?_;by_cases hi : 0≤size - 1
  ·refine jB (Ai @h6 (Ai @h0 (Ai @hx (decide_eq_true hi)))) ?_;refine jF ?_;refine aC ?_;simp only [az,aw,if_true,cn,bz,bD,eD,List.toList_toArray];exact ⟨_,s1,AV.aA.refl _,AS.le.refl _,rfl,h⟩
  ·refine jB (Ai @h6 (Ai @h0 (Ai @hx (decide_eq_false hi)))) ?_;refine jF ?_;refine aC ?_;simp only [az,aw,if_true,cn,bz,bD,eD,List.toList_toArray];exact ⟨_,s1,AV.aA.refl _,AS.le.refl _,rfl,h⟩
theorem za (s0 s : AS) (p : Nat) (st : List UInt8 × Bool) (n size : Nat) (hn : n < 2 ^ 64) (hs : size≤8) (hl : st.1.length + 8≤2 ^ 45) (h : eR s0 s p st) :
  ah prog Γ 133 [.ptr p 0,.v (.int .u64 n),.v (.int .i64 size)] s (fun r s'=>r = .eJ []∧eR s0 s' p (dN size n st)):=by
 obtain ⟨l,b⟩:=st;cases b
 ·exact Ds s0 s p l n size hn hs hl h
 ·exact HN s0 s p l n size (by omega) h
theorem nr (s : AS) : ah prog Γ 31 [] s (fun r s'=>∃ p,r = .ptr p 0∧eR s s' p ([],false)):=by
 refine ab func31 rfl ntmps31 results31 (by simp) ?_;refine jA ?_;refine wS fun K hK=>?_;simp only [↓DN,Qa,Qb,Qc,Qd,Qe,Qf,Qg,Qh,reduceCtorEq,↓reduceIte,Na,Nb,Nc,Nk,Nf,Ng,Nh,Za,Zb,Zc,TT,Array.toList_empty];intro p hp;refine hK _ _ ?_;refine a7 ?_;simp only [↓DN,Qa,Qb,Qc,Qd,Qe,Qf,Qg,Qh,reduceCtorEq,↓reduceIte,Na,Nb,Nc,Nk,Nf,Ng,Nh,Za,Zb,Zc,TT,cn,bz,bD,dy,eD];exact ⟨_,_,AV.aA.refl _,AS.le.refl _,p,rfl,AS.aB (AS.le.refl s) hp _,hp,_,AS.aa _ _ _,.inl ⟨rfl,rfl⟩⟩
theorem kg (s0 s : AS) (p : Nat) (st : List UInt8 × Bool) (n : Int) (size : Nat) (hn : -9223372036854775808≤n∧n≤9223372036854775807) (hs : size≤8) (hl : st.1.length + 8≤2 ^ 45) (h : eR s0 s p st) :
  ah prog Γ 135 [.ptr p 0,.v (.int .i64 n),.v (.int .i64 size)] s (fun r s'=>r = .eJ []∧eR s0 s' p (bf size n st)):=by
 refine ab func135 rfl ntmps135 results135 (by simp) ?_;obtain ⟨x,hx,hb⟩:=h.obj;refine wK fun K hK=>?_;have hmul : lj .i64 8 (size : Int) = 8 * size:=fc (by omega);have ZH : ¬ (8 * (size : Int) < 0):=(by omega);by_cases h0 : n < 0
 ·refine jB (decide_eq_true h0) ?_;refine jE ?_;refine jB @hx ?_;refine a7 ?_;simp only [az,cn,bz,bD,eD,List.toList_toArray];refine jW ⟨rfl,?_⟩;have : bf size n st = (st.1,true):=(by unfold bf; rw [if_neg (by omega)]);rw [this];exact h.bad hx hb true
 ·by_cases h1 : 2 ^ (8 * size)≤n
  ·refine jB (Ai (decide_eq_false h0) (Ai @hmul (Ai @ZH (Ai (Bz n size (by omega) (by omega)) (decide_eq_true h1))))) ?_;refine jE ?_;refine jB @hx ?_;refine a7 ?_;simp only [az,cn,bz,bD,eD,List.toList_toArray];refine jW ⟨rfl,?_⟩;have : bf size n st = (st.1,true):=(by unfold bf; rw [if_neg (by omega)]);rw [this];exact h.bad hx hb true
  ·refine jB (Ai (decide_eq_false h0) (Ai @hmul (Ai @ZH (Ai (Bz n size (by omega) (by omega)) (decide_eq_false h1))))) ?_;refine jF ?_;refine ag ?_;refine hK _ _ ?_;clear hK K;obtain ⟨m,rfl⟩:=Int.eq_ofNat_of_zero_le (Int.not_lt.1 h0);have ZI : cB .u64 (m : Int) = m:=gD m (by omega);refine jU @ZI fun K hK=>?_;refine ad (za s0 s p st m size (by omega) hs hl h) ?_;rintro r s' ⟨rfl,hp⟩;refine jR hK ?_;clear hK K;simp only [cn,bz,bD,eD,List.toList_toArray];refine jW ⟨rfl,?_⟩;have : bf size m st = dN size m st:=(by unfold bf; rw [if_pos (by omega)]; rfl);rw [this];exact hp
theorem eh (s0 s : AS) (p : Nat) (st : List UInt8 × Bool) (n : Int) (hn : -9223372036854775808≤n∧n≤9223372036854775807) (hl : st.1.length + 8≤2 ^ 45) (h : eR s0 s p st) :
  ah prog Γ 88 [.ptr p 0,.v (.int .i64 n)] s (fun r s'=>r = .eJ []∧eR s0 s' p (bf 1 n st)):=by
 refine ab func88 rfl ntmps88 results88 (by simp) ?_;refine jT fun K hK=>?_;refine ad (kg s0 s p st n 1 hn (by omega) hl h) ?_;rintro r s' ⟨rfl,hp⟩;refine jR hK ?_;clear hK K;simp only [cn,bz,bD,dy,List.toList_toArray,↓a8]; try simp only [UP,DF,Nc,↓reduceIte,DT]
 exact jW ⟨rfl,hp⟩
theorem Dt (s0 s : AS) (p : Nat) (st : List UInt8 × Bool) (n : Int) (hn : -9223372036854775808≤n∧n≤9223372036854775807) (hl : st.1.length + 8≤2 ^ 45) (h : eR s0 s p st) :
  ah prog Γ 145 [.ptr p 0,.v (.int .i64 n)] s (fun r s'=>r = .eJ []∧eR s0 s' p (bf 2 n st)):=by
 refine ab func145 rfl ntmps145 results145 (by simp) ?_;refine jT fun K hK=>?_;refine ad (kg s0 s p st n 2 hn (by omega) hl h) ?_;rintro r s' ⟨rfl,hp⟩;refine jR hK ?_;clear hK K;simp only [cn,bz,bD,dy,List.toList_toArray,↓a8]; try simp only [UP,DF,Nc,↓reduceIte,DT]
 exact jW ⟨rfl,hp⟩
theorem tN (s0 s : AS) (p : Nat) (st : List UInt8 × Bool) (n : Int) (hn : -9223372036854775808≤n∧n≤9223372036854775807) (hl : st.1.length + 8≤2 ^ 45) (h : eR s0 s p st) :
  ah prog Γ 219 [.ptr p 0,.v (.int .i64 n)] s (fun r s'=>r = .eJ []∧eR s0 s' p (bf 4 n st)):=by
 refine ab func219 rfl ntmps219 results219 (by simp) ?_;refine jT fun K hK=>?_;refine ad (kg s0 s p st n 4 hn (by omega) hl h) ?_;rintro r s' ⟨rfl,hp⟩;refine jR hK ?_;clear hK K;simp only [cn,bz,bD,dy,List.toList_toArray,↓a8]; try simp only [UP,DF,Nc,↓reduceIte,DT]
 exact jW ⟨rfl,hp⟩
theorem eX (s0 s : AS) (p : Nat) (st : List UInt8 × Bool) (n : Nat) (hn : n < 2 ^ 64) (hl : st.1.length + 8≤2 ^ 45) (h : eR s0 s p st) :
  ah prog Γ 86 [.ptr p 0,.v (.int .u64 n)] s (fun r s'=>r = .eJ []∧eR s0 s' p (dN 8 n st)):=by
 refine ab func86 rfl ntmps86 results86 (by simp) ?_;refine jT fun K hK=>?_;refine ad (za s0 s p st n 8 hn (by omega) hl h) ?_;rintro r s' ⟨rfl,hp⟩;refine jR hK ?_;clear hK K;simp only [cn,bz,bD,dy,List.toList_toArray,↓a8]; try simp only [UP,DF,Nc,↓reduceIte,DT]
 exact jW ⟨rfl,hp⟩
theorem tO (s0 s : AS) (p : Nat) (st : List UInt8 × Bool) (b : AV) (m : List UInt8) (hb : yn b m) (hl : st.1.length + m.length≤2 ^ 45) (h : eR s0 s p st) :
  ah prog Γ 175 [.ptr p 0,b] s (fun r s'=>r = .eJ []∧eR s0 s' p (cx m st)):=by
 obtain ⟨l,bad⟩:=st;obtain ⟨x,hx,MT⟩:=h.obj;refine ab func175 rfl ntmps175 results175 (by simp) ?_;cases bad
 ·refine jB @hx ?_;refine jE ?_;have ZJ : cx m (l,false) = (l ++ m,false):=rfl;by_cases hm : m.length = 0
  ·have uv : m = []:=List.eq_nil_of_length_eq_zero hm;subst uv;have e : (l ++ [],false) = (l,false):=(by simp);rw [ZJ,e];rcases MT with ⟨rfl,ur⟩ | ⟨t,e,rfl,ht,gM⟩
   ·simp only at ur;subst ur;rcases hb with ⟨rfl,_⟩ | ⟨sp,rfl⟩
    ·refine wE fun K hK=>?_;simp only [↓DN,Qa,Qb,Qc,Qd,Qe,Qf,Qg,Qh,reduceCtorEq,↓reduceIte,Na,Nb,Nc,Nk,Nf,Ng,Nh,Za,Zb,Zc,TT,hx,bZ,aj,hm];refine hK _ _ ?_;clear hK K;simp only [cn,bz,bD,dy,List.toList_toArray,↓a8]; try simp only [UP,DF,Nc,↓reduceIte,DT]
     exact ⟨_,_,AV.aA.refl _,AS.le.refl _,rfl,h.bad hx (.inl ⟨rfl,rfl⟩) false⟩
    ·refine wE fun K hK=>?_;simp only [↓DN,Qa,Qb,Qc,Qd,Qe,Qf,Qg,Qh,reduceCtorEq,↓reduceIte,Na,Nb,Nc,Nk,Nf,Ng,Nh,Za,Zb,Zc,TT,hx,bZ,aj,hm];refine hK _ _ ?_;clear hK K;simp only [cn,bz,bD,dy,List.toList_toArray,↓a8]; try simp only [UP,DF,Nc,↓reduceIte,DT]
     exact ⟨_,_,AV.aA.refl _,AS.le.refl _,rfl,h.bad hx (.inl ⟨rfl,rfl⟩) false⟩
   ·rcases hb with ⟨rfl,_⟩ | ⟨sp,rfl⟩
    ·refine wE fun K hK=>?_;simp only [↓DN,Qa,Qb,Qc,Qd,Qe,Qf,Qg,Qh,reduceCtorEq,↓reduceIte,Na,Nb,Nc,Nk,Nf,Ng,Nh,Za,Zb,Zc,TT,hx,bZ,aj,hm];refine hK _ _ ?_;clear hK K;simp only [cn,bz,bD,dy,List.toList_toArray,↓a8]; try simp only [UP,DF,Nc,↓reduceIte,DT]
     exact ⟨_,_,AV.aA.refl _,AS.le.refl _,rfl,h.bad hx (.inr ⟨t,e,rfl,ht,gM⟩) false⟩
    ·refine wE fun K hK=>?_;simp only [↓DN,Qa,Qb,Qc,Qd,Qe,Qf,Qg,Qh,reduceCtorEq,↓reduceIte,Na,Nb,Nc,Nk,Nf,Ng,Nh,Za,Zb,Zc,TT,hx,bZ,aj,hm];refine hK _ _ ?_;clear hK K;simp only [cn,bz,bD,dy,List.toList_toArray,↓a8]; try simp only [UP,DF,Nc,↓reduceIte,DT]
     exact ⟨_,_,AV.aA.refl _,AS.le.refl _,rfl,h.bad hx (.inr ⟨t,e,rfl,ht,gM⟩) false⟩
  ·have Pu : ∃ sp,b = aj m sp:=by
    rcases hb with ⟨_,rfl⟩ | hb
    ·exact absurd rfl hm
    ·exact hb
   obtain ⟨sp,rfl⟩:=Pu;rw [ZJ];simp only at hl;rcases MT with ⟨rfl,ur⟩ | ⟨t,e,rfl,ht,gM⟩
   ·simp only at ur;subst ur;refine wE fun K hK=>?_;simp only [↓DN,Qa,Qb,Qc,Qd,Qe,Qf,Qg,Qh,reduceCtorEq,↓reduceIte,Na,Nb,Nc,Nk,Nf,Ng,Nh,Za,Zb,Zc,TT,hx,bZ,aj,hm];refine ⟨by omega,by omega,fun t ht=>hK _ _ ?_⟩;clear hK K;simp only [cn,bz,bD,dy,List.toList_toArray,↓a8]; try simp only [UP,DF,Nc,↓reduceIte,DT]
    exact jW ⟨rfl,h.Po ht m⟩
   ·refine jU (Ai @hx (Ai @aj.eq_1 (Ai @hm @ht))) fun K hK=>?_;refine ⟨by omega,by omega,hK _ _ ?_⟩;clear hK K;simp only [cn,bz,bD,dy,List.toList_toArray,↓a8]; try simp only [UP,DF,Nc,↓reduceIte,DT]
    exact jW ⟨rfl,h.more gM m rfl rfl⟩
 ·refine jB @hx ?_;refine jF ?_;refine ag ?_;simp only [cn,bz,bD,dy,List.toList_toArray,↓a8]; try simp only [UP,DF,Nc,↓reduceIte,DT]
  exact jW ⟨rfl,h⟩
theorem rn (s0 s : AS) (p : Nat) (st : List UInt8 × Bool) (b : AV) (m : List UInt8) (k : Nat) (hk : k≤8) (hb : yn b m) (hl : st.1.length + m.length + 8≤2 ^ 45) (h : eR s0 s p st) :
  ah prog Γ 134 [.ptr p 0,b,.v (.int .i64 k)] s (fun r s'=>r = .eJ []∧eR s0 s' p (dj k m st)):=by
 refine ab func134 rfl ntmps134 results134 (by simp) ?_;have hlen : (bf k m.length st).1.length≤st.1.length + k:=eS ..;rcases hb with ⟨rfl,rfl⟩ | ⟨sp,rfl⟩
 ·refine wS fun K hK=>?_;simp only [↓DN,Qa,Qb,Qc,Qd,Qe,Qf,Qg,Qh,reduceCtorEq,↓reduceIte,Na,Nb,Nc,Nk,Nf,Ng,Nh,Za,Zb,Zc,TT,bZ,List.length_nil];refine ad (kg s0 s p st 0 k (by omega) hk (by omega) h) ?_;rintro r s' ⟨rfl,hp⟩;refine jR hK ?_;clear hK K;refine jT fun K hK=>?_;refine ad (tO s0 s' p _ bZ [] yn.nil (by have:=eS k 0 st; simp at this hl ⊢; omega) hp) ?_;rintro r fD ⟨rfl,Rs⟩;refine jR hK ?_;clear hK K;simp only [cn,bz,bD,dy,List.toList_toArray,↓a8]; try simp only [UP,DF,Nc,↓reduceIte,DT]
  exact jW ⟨rfl,Rs⟩
 ·refine jS @aj.eq_1 fun K hK=>?_;refine ad (kg s0 s p st m.length k (by omega) hk (by omega) h) ?_;rintro r s' ⟨rfl,hp⟩;refine jR hK ?_;clear hK K;refine jT fun K hK=>?_;refine ad (tO s0 s' p _ (aj m sp) m (yn.mk m sp) (by simp only [List.length_nil] at *; omega) hp) ?_;rintro r fD ⟨rfl,Rs⟩;refine jR hK ?_;clear hK K;simp only [cn,bz,bD,dy,List.toList_toArray,↓a8]; try simp only [UP,DF,Nc,↓reduceIte,DT]
  exact jW ⟨rfl,Rs⟩
theorem eH (s0 s : AS) (p : Nat) (st : List UInt8 × Bool) (b : AV) (m : List UInt8) (hb : yn b m) (hl : st.1.length + m.length + 8≤2 ^ 45) (h : eR s0 s p st) :
  ah prog Γ 87 [.ptr p 0,b] s (fun r s'=>r = .eJ []∧eR s0 s' p (dj 1 m st)):=by
 refine ab func87 rfl ntmps87 results87 (by simp) ?_;refine jT fun K hK=>?_;refine ad (rn s0 s p st b m 1 (by omega) hb hl h) ?_;rintro r s' ⟨rfl,hp⟩;refine jR hK ?_;clear hK K;simp only [cn,bz,bD,dy,List.toList_toArray,↓a8]; try simp only [UP,DF,Nc,↓reduceIte,DT]
 exact jW ⟨rfl,hp⟩
theorem rp (s0 s : AS) (p : Nat) (st : List UInt8 × Bool) (b : AV) (m : List UInt8) (hb : yn b m) (hl : st.1.length + m.length + 8≤2 ^ 45) (h : eR s0 s p st) :
  ah prog Γ 136 [.ptr p 0,b] s (fun r s'=>r = .eJ []∧eR s0 s' p (dj 2 m st)):=by
 refine ab func136 rfl ntmps136 results136 (by simp) ?_;refine jT fun K hK=>?_;refine ad (rn s0 s p st b m 2 (by omega) hb hl h) ?_;rintro r s' ⟨rfl,hp⟩;refine jR hK ?_;clear hK K;simp only [cn,bz,bD,dy,List.toList_toArray,↓a8]; try simp only [UP,DF,Nc,↓reduceIte,DT]
 exact jW ⟨rfl,hp⟩
theorem B6 (s : AS) : ah prog Γ 90 [bZ] s (fun r s'=>r = aj [] .any∧s' = s):=by
 refine ab func90 rfl ntmps90 results90 (by simp) ?_;unfold bZ;refine jA ?_;refine wK fun K hK=>?_;refine jA ?_;refine jE ?_;refine jA ?_;refine jI ?_;exact ⟨_,_,AV.aJ,AS.le.refl _,rfl,rfl⟩
theorem od (l : List UInt8) (s : AS) (hl : l.length≤2 ^ 45) : ah prog Γ 90 [aj l .any] s (fun r s'=>r = aj l .any∧s' = s) :=
 ah.any (pre:=[]) (post:=[]) (fun e=>by subst e; exact B6 s) (wq l .no rfl s hl)
theorem fO (s0 s : AS) (p : Nat) (st : List UInt8 × Bool) (hl : st.1.length≤2 ^ 45) (h : eR s0 s p st) :
  ah prog Γ 33 [.ptr p 0] s (fun r s'=>r = .eJ [aj (if st.2 = true then [] else st.1) .any,.v (.bool !st.2)]∧s' = s):=by
 obtain ⟨l,bad⟩:=st;obtain ⟨x,hx,MT⟩:=h.obj;refine ab func33 rfl ntmps33 results33 (by simp) ?_;simp only at hx hl MT;refine jA ?_;refine wK fun K hK=>?_;cases bad
 ·refine jB @hx ?_;refine jF ?_;refine ag ?_;refine hK _ _ ?_;clear hK K;rcases MT with ⟨rfl,ur⟩ | ⟨t,e,rfl,ht,gM⟩
  ·subst ur;refine jS @hx fun K hK=>?_;refine ad (B6 s) ?_;rintro r s' ⟨rfl,rfl⟩;refine jR hK ?_;clear hK K;exact jJ
  ·refine jS @hx fun K hK=>?_;refine ad (wq l _ rfl s hl) ?_;rintro r s' ⟨rfl,rfl⟩;refine jR hK ?_;clear hK K;exact jJ
 ·refine jB @hx ?_;refine jE ?_;refine jA ?_;refine jI ?_;exact ⟨_,_,AV.dd AV.aJ (AV.aA.refl _),AS.le.refl _,rfl,rfl⟩
theorem oe (l : List UInt8) (s : AS) (hl : l.length≤2 ^ 45) : ah prog Γ 35 [aj l .any] s (fun r s'=>∃ p,r = .ptr p 0∧dH s s' p (l,0)):=by
 refine ab func35 rfl ntmps35 results35 (by simp) ?_;refine jA ?_;refine jQ fun K hK=>?_;refine ad (od l s hl) ?_;rintro r s' ⟨rfl,rfl⟩;unfold aj;refine jM ?_;intro p hp;refine hK _ _ ?_;refine jI ?_;exact jW ⟨p,rfl,AS.aB (AS.le.refl _) hp _,hp,AS.aa _ _ _⟩
theorem zb (s0 s : AS) (p : Nat) (st : aX) (n : Int) (h : dH s0 s p st) :
  ah prog Γ 176 [.ptr p 0,.v (.int .i64 n)] s (fun r s'=>r = aj (cL n st).1 .any∧dH s0 s' p (cL n st).2):=by
 refine ab func176 rfl ntmps176 results176 (by simp) ?_;obtain ⟨l,er⟩:=st;have hx:=h.obj;simp only [aj] at hx;refine jA ?_;refine wK fun K hK=>?_;refine al ?_;by_cases h0 : er = 0
 ·subst h0;refine jB (Ai @hx (eU 0 rfl)) ?_;refine jF ?_;by_cases h1 : n < 0
  ·refine jB (decide_eq_true h1) ?_;refine jE ?_;refine jB @hx ?_;refine jA ?_;refine jI ?_;rw [EM h1];exact ⟨_,_,AV.aJ,AS.le.refl _,rfl,h.put⟩
  ·refine jB (decide_eq_false h1) ?_;refine jF ?_;by_cases h2 : (l.length : Int) < n
   ·refine jB (Ai @hx (decide_eq_true h2)) ?_;refine jE ?_;refine jB @hx ?_;refine jA ?_;refine jI ?_;rw [qX h1 h2];exact ⟨_,_,AV.aJ,AS.le.refl _,rfl,h.put⟩
   ·obtain ⟨m,rfl⟩:=Int.eq_ofNat_of_zero_le (Int.not_lt.1 h1);have uq : m≤l.length:=(by omega);have uv : (0 : Int)≤(m : Int):=(by omega);have ZK : (m : Int)≤(l.length : Int):=(by omega);refine jB (Ai @hx (decide_eq_false h2)) ?_;refine jF ?_;refine ag ?_;simp only [az,aw,if_true,if_false];refine hK _ _ ?_;clear hK K;refine jB (Ai @hx (Ai @uv (Ai @ZK @Int.le_refl))) ?_;refine jB (Ai @hx (Ai @uv (Ai @ZK @Int.le_refl))) ?_;refine jA ?_;refine jI ?_;rw [rP uq];refine ⟨_,_,AV.aA.refl _,AS.le.refl _,EK ?_ rfl,h.Pr ?_⟩
    ·simp only [List.length_take]; omega
    ·rw [EK (m:=l.drop m)]
     ·simp only [List.length_drop]
     ·rw [List.take_length]
 ·refine jB (Ai @hx (fL er h0)) ?_;refine jE ?_;refine jA ?_;refine jI ?_;rw [vV h0];exact ⟨_,_,AV.aJ,AS.le.refl _,rfl,h⟩
theorem gN (s0 s : AS) (p : Nat) (st : aX) (size : Nat) (hs : size≤8) (h : dH s0 s p st) :
  ah prog Γ 137 [.ptr p 0,.v (.int .i64 size)] s (fun r s'=>r = .v (.int .u64 (bm size st).1)∧dH s0 s' p (bm size st).2):=by
 refine ab func137 rfl ntmps137 results137 (by simp) ?_;obtain ⟨out,bu⟩ : ∃ out,out = (cL size st).1:=⟨_,rfl⟩;have hlen : out.length≤8:=(by rw [bu]; exact Nat.le_trans (yq _ _) hs);refine jA ?_;refine jA ?_;refine wK fun K hK=>?_;refine jQ fun K hK=>?_;refine ad (zb s0 s p st size h) ?_;rintro r s2 ⟨rfl,he⟩;rw [← bu];unfold aj;refine jR hK ?_;clear hK K;refine al ?_;refine aE (fun E s3=>∃ j y : Nat,j≤out.length∧E 10 = .sl 1 out.length (out.map ai) .any∧E 11 = .v (.int .i64 out.length)∧E 12 = .v (.int .i64 j)∧E 5 = .v (.int .u64 y)∧y = eo (out.take j)∧s3 = s2)
  (fun E _=>match E 12 with | .v (.int _ j)=>out.length - j.toNat | _=>0) ?_ ?_
 ·exact ⟨0,0,Nat.zero_le _,rfl,rfl,rfl,rfl,rfl,rfl⟩
 ·rintro E3 s3 ⟨j,y,hj,f10,f11,f12,f5,hy,rfl⟩ -
  by_cases gQ : j < out.length
  ·have hy7 : y < 2 ^ 56:=by
    rw [hy];refine Nat.lt_of_lt_of_le (mI out j) ?_;rw [show (2 : Nat) ^ 56 = 256 ^ 7 from by decide];exact Nat.pow_le_pow_right (by decide) (by omega)
   have hy2 : eo (out.take (j + 1)) = y * 256 + out[j].toNat:=(by rw [List.take_succ_eq_append_getElem gQ,yp,← hy]);have ZL : (0 : Int)≤(j : Int):=(by omega);have dI:=LH gQ;generalize P9 : out[j] = c at *
   refine jB (Ai @f11 (Ai @f12 (Ai @ax (decide_eq_true gQ)))) ?_;refine wK fun K5 lU=>?_;refine jE ?_;refine ag ?_;refine lU _ _ ?_;clear lU K5;refine wK fun K6 kn=>?_;refine al ?_;refine wS fun K hK=>?_;simp only [↓DN,Qa,Qb,Qc,Qd,Qe,Qf,Qg,Qh,reduceCtorEq,↓reduceIte,Na,Nb,Nc,Nk,Nf,Ng,Nh,Za,Zb,Zc,TT,f10,f12,ax,gQ,ZL,dI,ai];refine hK _ _ ?_;clear hK K;refine jD (Ai @f5 (GX y c hy7)) ?_;simp only [aw,az,if_true,if_false];refine kn _ _ ?_;clear kn K6;refine jD (Ai @f12 (eE j (by omega))) ?_;refine ⟨⟨j + 1,y * 256 + c.toNat,by omega,f10,f11,rfl,rfl,hy2.symm,rfl⟩,?_⟩;simp only [f12,aF,↓reduceIte];omega
  ·refine jB (Ai @f11 (Ai @f12 (Ai @ax (decide_eq_false gQ)))) ?_;refine wK fun K5 lU=>?_;refine jF ?_;refine aC ?_;simp only [az,aw,if_true];refine hK _ _ ?_;clear hK lU K K5;refine jB @f5 ?_;refine jI ?_;refine ⟨_,_,AV.aA.refl _,AS.le.refl _,?_,he⟩;rw [hy,List.take_of_length_le (by omega),bu];rfl
theorem Du (s0 s : AS) (p : Nat) (st : aX) (n : Int) (hl : st.1.length≤2 ^ 45) (h : dH s0 s p st) :
  ah prog Γ 177 [.ptr p 0,.v (.int .i64 n)] s (fun r s'=>r = aj (cL n st).1 .any∧dH s0 s' p (cL n st).2):=by
 refine ab func177 rfl ntmps177 results177 (by simp) ?_;refine jA ?_;refine jQ fun K hK=>?_;refine ad (zb s0 s p st n h) ?_;rintro r s' ⟨rfl,he⟩;refine jM ?_;refine ad (od _ s' (by have:=(pD n st).1; omega)) ?_;rintro r' fD ⟨rfl,rfl⟩;refine jR hK ?_;clear hK K;refine jI ?_;exact jW ⟨rfl,he⟩
theorem vi (k : Nat) (hk : k≤7) (st : aX) : cB .i64 ((bm k st).1 : Int) = ((bm k st).1 : Int):=by
 have:=uH k st;have h2 : 256 ^ k≤256 ^ 7:=Nat.pow_le_pow_right (by decide) hk;have h3 : (256 : Nat) ^ 7 = 72057594037927936:=(by decide);exact uF (by omega)
theorem FA (s0 s : AS) (p : Nat) (st : aX) (h : dH s0 s p st) :
  ah prog Γ 96 [.ptr p 0] s (fun r s'=>r = .v (.int .i64 (bm 1 st).1)∧dH s0 s' p (bm 1 st).2):=by
 refine ab func96 rfl ntmps96 results96 (by simp) ?_;refine jA ?_;refine jQ fun K hK=>?_;refine ad (gN s0 s p st 1 (by omega) h) ?_;rintro r s' ⟨rfl,he⟩;refine jV (vi 1 (by omega) st) hK ?_;clear hK K;refine jI ?_;exact jW ⟨rfl,he⟩
theorem tP (s0 s : AS) (p : Nat) (st : aX) (h : dH s0 s p st) :
  ah prog Γ 217 [.ptr p 0] s (fun r s'=>r = .v (.int .i64 (bm 4 st).1)∧dH s0 s' p (bm 4 st).2):=by
 refine ab func217 rfl ntmps217 results217 (by simp) ?_;refine jA ?_;refine jQ fun K hK=>?_;refine ad (gN s0 s p st 4 (by omega) h) ?_;rintro r s' ⟨rfl,he⟩;refine jV (vi 4 (by omega) st) hK ?_;clear hK K;refine jI ?_;exact jW ⟨rfl,he⟩
theorem tQ (s0 s : AS) (p : Nat) (st : aX) (h : dH s0 s p st) :
  ah prog Γ 94 [.ptr p 0] s (fun r s'=>r = .v (.int .u64 (bm 8 st).1)∧dH s0 s' p (bm 8 st).2):=by
 refine ab func94 rfl ntmps94 results94 (by simp) ?_;refine jA ?_;refine jQ fun K hK=>?_;refine ad (gN s0 s p st 8 (by omega) h) ?_;rintro r s' ⟨rfl,he⟩;refine jR hK ?_;clear hK K;refine jI ?_;exact jW ⟨rfl,he⟩
theorem rq (s0 s : AS) (p : Nat) (st : aX) (k : Nat) (most : Int) (hk : k≤7) (hl : st.1.length≤2 ^ 45) (h : dH s0 s p st) :
  ah prog Γ 138 [.ptr p 0,.v (.int .i64 k),.v (.int .i64 most)] s (fun r s'=>r = aj (bq k most st).1 .any∧dH s0 s' p (bq k most st).2):=by
 refine ab func138 rfl ntmps138 results138 (by simp) ?_;have hx:=h.obj;simp only [aj] at hx;refine jA ?_;refine jB @hx ?_;refine jQ fun K hK=>?_;refine ad (gN s0 s p st k (by omega) h) ?_;rintro r s' ⟨rfl,he⟩;refine jV (vi k hk st) hK ?_;clear hK K;have hlen:=cF k st;obtain ⟨q,hq⟩ : ∃ q,bm k st = q:=⟨_,rfl⟩;rw [hq] at he hlen;rw [hq];obtain ⟨num,l',er⟩:=q;have GI:=he.obj;simp only [aj] at GI hlen;refine wK fun K hK=>?_;refine al ?_;by_cases h0 : er = 0
 ·subst h0;refine jB (Ai @GI (eU 0 rfl)) ?_;refine jF ?_;by_cases h1 : most < (num : Int)
  ·refine jB (decide_eq_true h1) ?_;refine jE ?_;refine jB @GI ?_;refine jA ?_;refine jI ?_;have e : bq k most st = ([],st.1,11):=(by unfold bq; rw [hq]; exact (if_pos rfl).trans (if_pos h1));rw [e];exact ⟨_,_,AV.aJ,AS.le.refl _,rfl,he.put⟩
  ·refine jB (decide_eq_false h1) ?_;refine jF ?_;by_cases h2 : l'.length < num
   ·refine jB (Ai @GI (Ai @ax (decide_eq_true h2))) ?_;refine jE ?_;refine jB @GI ?_;refine jA ?_;refine jI ?_;have e : bq k most st = ([],st.1,10):=(by unfold bq; rw [hq]; exact (if_pos rfl).trans ((if_neg h1).trans (if_pos h2)));rw [e];exact ⟨_,_,AV.aJ,AS.le.refl _,rfl,he.put⟩
   ·have e : bq k most st = cL num (l',0):=(by unfold bq; rw [hq]; exact (if_pos rfl).trans ((if_neg h1).trans (if_neg h2)));refine jB (Ai @GI (Ai @ax (decide_eq_false h2))) ?_;refine jF ?_;refine ag ?_;simp only [az,aw,if_true,if_false];refine hK _ _ ?_;clear hK K;refine jQ fun K hK=>?_;refine ad (Du s0 s' p (l',0) num (by simp only; omega) he) ?_;rintro r fD ⟨rfl,he'⟩;refine jR hK ?_;clear hK K;refine jI ?_;rw [e];exact jW ⟨rfl,he'⟩
 ·refine jB (Ai @GI (fL er h0)) ?_;refine jE ?_;refine jA ?_;refine jI ?_;have e : bq k most st = ([],l',er):=(by unfold bq; rw [hq]; exact if_neg h0);rw [e];exact ⟨_,_,AV.aJ,AS.le.refl _,rfl,he⟩
theorem zc (s0 s : AS) (p : Nat) (st : aX) (most : Int) (hl : st.1.length≤2 ^ 45) (h : dH s0 s p st) :
  ah prog Γ 95 [.ptr p 0,.v (.int .i64 most)] s (fun r s'=>r = aj (bq 1 most st).1 .any∧dH s0 s' p (bq 1 most st).2):=by
 refine ab func95 rfl ntmps95 results95 (by simp) ?_;refine jA ?_;refine jQ fun K hK=>?_;refine ad (rq s0 s p st 1 most (by omega) hl h) ?_;rintro r s' ⟨rfl,he⟩;refine jR hK ?_;clear hK K;refine jI ?_;exact jW ⟨rfl,he⟩
theorem AL (s0 s : AS) (p : Nat) (st : aX) (most : Int) (hl : st.1.length≤2 ^ 45) (h : dH s0 s p st) :
  ah prog Γ 140 [.ptr p 0,.v (.int .i64 most)] s (fun r s'=>r = aj (bq 2 most st).1 .any∧dH s0 s' p (bq 2 most st).2):=by
 refine ab func140 rfl ntmps140 results140 (by simp) ?_;refine jA ?_;refine jQ fun K hK=>?_;refine ad (rq s0 s p st 2 most (by omega) hl h) ?_;rintro r s' ⟨rfl,he⟩;refine jR hK ?_;clear hK K;refine jI ?_;exact jW ⟨rfl,he⟩
theorem AO (s0 s : AS) (p : Nat) (st : aX) (h : dH s0 s p st) :
  ah prog Γ 39 [.ptr p 0] s (fun r s'=>r = .v (.int .i64 st.1.length)∧s' = s):=by
 refine ab func39 rfl ntmps39 results39 (by simp) ?_;have hx:=h.obj;simp only [aj] at hx;refine jA ?_;refine jB @hx ?_;exact jJ
theorem Dv (s0 s : AS) (p : Nat) (st : aX) (h : dH s0 s p st) :
  ah prog Γ 38 [.ptr p 0] s (fun r s'=>r = .v (.int .i64 st.2)∧s' = s):=by
 refine ab func38 rfl ntmps38 results38 (by simp) ?_;have hx:=h.obj;refine jA ?_;refine jB @hx ?_;exact jJ
theorem AP (s0 s : AS) (p : Nat) (st : aX) (e : Int) (h : dH s0 s p st) :
  ah prog Γ 139 [.ptr p 0,.v (.int .i64 e)] s (fun r s'=>r = .eJ []∧dH s0 s' p (st.1,if st.2 = 0 then e else st.2)):=by
 refine ab func139 rfl ntmps139 results139 (by simp) ?_;have hx:=h.obj;obtain ⟨l,er⟩:=st;simp only at hx ⊢;by_cases h0 : er = 0
 ·refine jB (Ai @hx (EL er h0)) ?_;refine jE ?_;refine jD @hx ?_;simp only [cn,bz,bD,dy,List.toList_toArray,↓a8]; try simp only [UP,DF,Nc,↓reduceIte,DT]
  rw [if_pos h0];exact jW ⟨rfl,h.put⟩
 ·refine jB (Ai @hx (CK er h0)) ?_;refine jF ?_;refine ag ?_;simp only [cn,bz,bD,dy,List.toList_toArray,↓a8]; try simp only [UP,DF,Nc,↓reduceIte,DT]
  rw [if_neg h0];exact jW ⟨rfl,h⟩
theorem n256 : ((256 : Int) = 0) = False:=by simp
theorem MU (q : Nat) : cB .u8 (mV (q : Int) 256) = ((UInt8.ofNat q).toNat : Int):=by
 rw [show (256 : Int) = ((256 : Nat) : Int) from rfl,nO,gL rfl];simp [IntKind.bits]
theorem Qi (n i : Nat) (h : n < 2 ^ 64) : nC .u64 ((n / 256 ^ i : Nat) : Int) 256 = ((n / 256 ^ (i + 1) : Nat) : Int):=by
 have hq : n / 256 ^ i < 2 ^ IntKind.u64.bits:=Nat.lt_of_le_of_lt (Nat.div_le_self _ _) h;have:=LB (k:=.u64) rfl (n / 256 ^ i) 256 hq;rw [show (256 : Int) = ((256 : Nat) : Int) from rfl,this,Nat.div_div_eq_div_mul,Nat.pow_succ]
theorem MV (c : UInt8) : me [AV.v (.int .u8 (c.toNat : Int))] = ByteArray.mk [c].toArray:=fw [c]
theorem Qj (c : UInt8) : isByte (AV.v (.int .u8 (c.toNat : Int))) = true:=rfl
theorem dz (n size : Nat) (hn : n < 2 ^ 64) (hs : size≤8) (s : AS) :
  ah prog Γ 91 [.v (.int .u64 n),.v (.int .i64 size)] s (fun r s'=>r = .v (.string ⟨(be size n).toArray⟩)∧s' = s):=by
 refine ab func91 rfl ntmps91 results91 (by simp) ?_;refine jA ?_;refine jA ?_;refine wK fun K hK=>?_;refine jA ?_;refine al ?_;refine aE (fun E s1=>∃ i : Nat,i≤size∧E 6 = .v (.int .i64 i)∧E 1 = .v (.int .i64 size)∧E 0 = .v (.int .u64 (n / 256 ^ i : Nat))∧E 5 = .v (.string ⟨(be i n).toArray⟩)∧s1 = s)
  (fun E _=>match E 6 with | .v (.int _ i)=>size - i.toNat | _=>0) ?_ ?_
 ·exact ⟨0,Nat.zero_le _,by simp [aF],by simp [aF,br],by simp [aF,br],by simp [aF,be],rfl⟩
 ·rintro E1 s1 ⟨i,hi,h6,h1,h0,h5,rfl⟩ -
  refine wK fun K2 aW=>?_;by_cases bc : i < size
  ·refine jB (Ai @h6 (Ai @h1 (Ai @ax (decide_eq_true bc)))) ?_;refine jE ?_;refine ag ?_;refine aW _ _ ?_;clear aW K2;refine wK fun K3 bC=>?_;refine al ?_;refine wS fun K hK=>?_;simp only [↓DN,Qa,Qb,Qc,Qd,Qe,Qf,Qg,Qh,reduceCtorEq,↓reduceIte,Na,Nb,Nc,Nk,Nf,Ng,Nh,Za,Zb,Zc,TT,h0,h5,n256,MU,MV,Qj,List.replicate_succ,cp,qq,b8,dO (show 1 + i < 2 ^ 62 by omega)];refine hK _ _ ?_;clear hK K;refine jD (Ai @h0 (Ai @n256 (Qi n i hn))) ?_;simp only [aw,az,if_true,if_false];refine bC _ _ ?_;clear bC K3;refine jD (Ai @h6 (eE i (by omega))) ?_;refine ⟨⟨i + 1,by omega,rfl,h1,rfl,?_,rfl⟩,?_⟩
   ·simp only [aF,Nc,↓reduceIte,be,show 2 ^ (8 * i) = 256 ^ i from by rw [Nat.pow_mul]]
   ·simp only [h6,aF,↓reduceIte];omega
  ·refine jB (Ai @h6 (Ai @h1 (Ai @ax (decide_eq_false bc)))) ?_;refine jF ?_;refine aC ?_;simp only [az,aw,if_true];refine hK _ _ ?_;clear hK aW K K2;refine jB @h5 ?_;refine jI ?_;obtain rfl : i = size:=(by omega);exact jW ⟨rfl,rfl⟩
theorem Qk (n : Nat) (h : n < 2 ^ 63) : cB .u64 (n : Int) = n:=gD n (by omega)
theorem jx (l : List UInt8) (size : Nat) (hl : l.length < 2 ^ 61) (hs : size≤8) (s : AS) :
  ah prog Γ 92 [.v (.string ⟨l.toArray⟩),.v (.int .i64 size)] s (fun r s'=>r = .v (.string ⟨(be size l.length ++ l).toArray⟩)∧s' = s):=by
 refine ab func92 rfl ntmps92 results92 (by simp) ?_;refine jA ?_;refine jS (Ai @cp (Qk l.length (by omega))) fun K hK=>?_;refine ad (dz l.length size (by omega) hs s) ?_;rintro r s' ⟨rfl,rfl⟩;refine jV (Ai @cp (Ai @qq (Ai @b8 (dO (show size + l.length < 2 ^ 62 by omega))))) hK ?_;clear hK K;exact jJ
theorem MW (y : Nat) (c : UInt8) (h : y < 2 ^ 56) : eu .u64 (lj .u64 (y : Int) 256) (cB .u64 (c.toNat : Int)) = ((y * 256 + c.toNat : Nat) : Int):=by
 have hc:=c.toNat_lt;rw [gD _ (by omega),show (256 : Int) = ((256 : Nat) : Int) from rfl,CI rfl,Nat.mod_eq_of_lt (by simp only [IntKind.bits]; omega),uE rfl,Nat.mod_eq_of_lt (by simp only [IntKind.bits]; omega)]
theorem p9 (l : List UInt8) (hl : l.length≤8) (s : AS) :
  ah prog Γ 67 [.v (.string ⟨l.toArray⟩)] s (fun r s'=>r = .v (.int .u64 (eo l))∧s' = s):=by
 refine ab func67 rfl ntmps67 results67 (by simp) ?_;refine jA ?_;refine jA ?_;refine wK fun K hK=>?_;refine jA ?_;refine al ?_;refine aE (fun E s1=>∃ i x : Nat,i≤l.length∧E 0 = .v (.string ⟨l.toArray⟩)∧E 4 = .v (.int .i64 i)∧E 3 = .v (.int .u64 x)∧x = eo (l.take i)∧s1 = s)
  (fun E _=>match E 4 with | .v (.int _ i)=>l.length - i.toNat | _=>0) ?_ ?_
 ·exact ⟨0,0,Nat.zero_le _,by simp [aF,br],by simp [aF],by simp [aF],by simp [eo],rfl⟩
 ·rintro E1 s1 ⟨i,x,hi,h0,h4,h3,hx,rfl⟩ -
  refine wK fun K2 aW=>?_;by_cases bc : i < l.length
  ·have Vg : eo (l.take (i + 1)) = x * 256 + l[i].toNat:=(by rw [List.take_succ_eq_append_getElem bc,yp,← hx]);have hx7 : x < 2 ^ 56:=by
    rw [hx];refine Nat.lt_of_lt_of_le (mI l i) ?_;rw [show (2 : Nat) ^ 56 = 256 ^ 7 from by decide];exact Nat.pow_le_pow_right (by decide) (by omega)
   have hgi : (0 : Int)≤(i : Int):=(by omega);have gn:=Ta l i bc;generalize P9 : l[i] = c at *
   refine jB (Ai @h0 (Ai @h4 (Ai @cp (Ai @ax (decide_eq_true bc))))) ?_;refine jE ?_;refine ag ?_;refine aW _ _ ?_;clear aW K2;refine wK fun K3 bC=>?_;refine al ?_;refine wE fun K hK=>?_;simp only [↓DN,Qa,Qb,Qc,Qd,Qe,Qf,Qg,Qh,reduceCtorEq,↓reduceIte,Na,Nb,Nc,Nk,Nf,Ng,Nh,Za,Zb,Zc,TT,h0,h4,h3,hgi,gn,ai,MW x c hx7];refine hK _ _ ?_;clear hK K;simp only [aw,az,if_true,if_false];refine bC _ _ ?_;clear bC K3;refine jD (Ai @h4 (eE i (by omega))) ?_;refine ⟨⟨i + 1,_,by omega,h0,rfl,rfl,Vg.symm,rfl⟩,?_⟩;simp only [h4,aF,↓reduceIte];omega
  ·refine jB (Ai @h0 (Ai @h4 (Ai @cp (Ai @ax (decide_eq_false bc))))) ?_;refine jF ?_;refine aC ?_;simp only [az,aw,if_true];refine hK _ _ ?_;clear hK aW K K2;refine jB @h3 ?_;refine jI ?_;refine jW ⟨?_,rfl⟩;rw [hx,List.take_of_length_le (by omega)]
theorem vj (s0 s : AS) (p : Nat) (st : aX) (size : Nat) (hs : size≤8) (hl : st.1.length < 2 ^ 61) (h : iT s0 s p st) :
  ah prog Γ 98 [.ptr p 0,.v (.int .i64 size)] s (fun r s'=>r = .v (.int .u64 (bm size st).1)∧iT s0 s' p (bm size st).2):=by
 refine ab func98 rfl ntmps98 results98 (by simp) ?_;have hx:=h.obj;obtain ⟨l,er⟩:=st;simp only at hx hl;refine jA ?_;refine wK fun K hK=>?_;by_cases h0 : er = 0
 ·subst h0;refine jB (Ai @hx (eU 0 rfl)) ?_;refine jF ?_;refine ag ?_;refine hK _ _ ?_;clear hK K;refine wK fun K hK=>?_;by_cases h1 : l.length < size
  ·refine jB (Ai @hx (Ai @cp (Ai @ax (decide_eq_true h1)))) ?_;refine jE ?_;refine jB @hx ?_;refine jA ?_;refine jI ?_;rw [tg h1];exact jW ⟨rfl,h.put⟩
  ·have SY : size≤l.length:=(by omega);have hle : (size : Int)≤(l.length : Int):=(by omega);have dr : (0 : Int)≤(size : Int):=(by omega);refine jB (Ai @hx (Ai @cp (Ai @ax (decide_eq_false h1)))) ?_;refine jF ?_;refine ag ?_;refine hK _ _ ?_;clear hK K;refine jS (Ai @hx (Ai @cp (Ai @gR (Ai @hle @dr)))) fun K hK=>?_;refine ad (p9 (l.take size) (by rw [List.length_take]; omega) s) ?_;rintro r s' ⟨rfl,rfl⟩;refine jR hK ?_;clear hK K;refine jB (Ai @hx (Ai @cp (Ai @gR (Ai @hle (Ai @dr @Int.le_refl))))) ?_;refine jA ?_;refine jI ?_;rw [qu SY];refine ⟨_,_,AV.aA.refl _,AS.le.refl _,rfl,h.Pr ?_⟩;rw [List.take_length]
 ·refine jB (Ai @hx (fL er h0)) ?_;refine jE ?_;refine jA ?_;refine jI ?_;rw [yu h0];exact jW ⟨rfl,h⟩
theorem zd (s0 s : AS) (p : Nat) (st : aX) (size : Nat) (most : Int) (hs : size≤7) (hl : st.1.length < 2 ^ 61) (h : iT s0 s p st) :
  ah prog Γ 99 [.ptr p 0,.v (.int .i64 size),.v (.int .i64 most)] s (fun r s'=>r = .v (.string ⟨(bq size most st).1.toArray⟩)∧iT s0 s' p (bq size most st).2):=by
 refine ab func99 rfl ntmps99 results99 (by simp) ?_;have hx:=h.obj;obtain ⟨l,er⟩:=st;simp only at hx hl;refine jA ?_;refine wK fun K hK=>?_;by_cases h0 : er = 0
 ·subst h0;refine jB (Ai @hx (eU 0 rfl)) ?_;refine jF ?_;refine ag ?_;refine hK _ _ ?_;clear hK K;refine wK fun K hK=>?_;by_cases h1 : l.length < size
  ·refine jB (Ai @hx (Ai @cp (Ai @ax (decide_eq_true h1)))) ?_;refine jE ?_;refine jB @hx ?_;refine jA ?_;refine jI ?_;rw [As h1];exact jW ⟨rfl,h.put⟩
  ·have SY : size≤l.length:=(by omega);have hle : (size : Int)≤(l.length : Int):=(by omega);have dr : (0 : Int)≤(size : Int):=(by omega);refine jB (Ai @hx (Ai @cp (Ai @ax (decide_eq_false h1)))) ?_;refine jF ?_;refine ag ?_;refine hK _ _ ?_;clear hK K;obtain ⟨n,hn⟩ : ∃ n,n = eo (l.take size):=⟨_,rfl⟩;have hn7 : n < 2 ^ 56:=by
    rw [hn];refine Nat.lt_of_lt_of_le (mI l size) ?_;rw [show (2 : Nat) ^ 56 = 256 ^ 7 from by decide];exact Nat.pow_le_pow_right (by decide) hs
   have Vy : cB .i64 (n : Int) = n:=uF (by omega);refine jS (Ai @hx (Ai @cp (Ai @gR (Ai @hle @dr)))) fun K hK=>?_;refine ad (p9 (l.take size) (by rw [List.length_take]; omega) s) ?_;rintro r s' ⟨rfl,rfl⟩;rw [← hn];refine jV @Vy hK ?_;clear hK K;refine wK fun K hK=>?_;by_cases h2 : most < (n : Int)
   ·refine jB (decide_eq_true h2) ?_;refine jE ?_;refine jB @hx ?_;refine jA ?_;refine jI ?_;rw [CM SY (by rw [← hn]; exact h2)];exact jW ⟨rfl,h.put⟩
   ·refine jB (decide_eq_false h2) ?_;refine jF ?_;refine ag ?_;refine hK _ _ ?_;clear hK K;refine wK fun K hK=>?_;have p8 : eC .i64 (l.length : Int) (size : Int) = ((l.length - size : Nat) : Int):=(by rw [dM (by omega)]; omega);by_cases h3 : l.length - size < n
    ·refine jB (Ai @hx (Ai @cp (Ai @p8 (Ai @ax (decide_eq_true h3))))) ?_;refine jE ?_;refine jB @hx ?_;refine jA ?_;refine jI ?_;rw [CN SY (by rw [← hn]; exact h2) (by rw [← hn]; exact h3)];exact jW ⟨rfl,h.put⟩
    ·have HO : eu .i64 (size : Int) (n : Int) = ((size + n : Nat) : Int):=(by rw [gC (by omega)]; rfl);have fC : (size : Int)≤((size + n : Nat) : Int):=(by omega);have gX : ((size + n : Nat) : Int)≤(l.length : Int):=(by omega);have qM : (0 : Int)≤((size + n : Nat) : Int):=(by omega);refine jB (Ai @hx (Ai @cp (Ai @p8 (Ai @ax (decide_eq_false h3))))) ?_;refine jF ?_;refine ag ?_;refine hK _ _ ?_;clear hK K;refine jB (Ai @hx (Ai @cp (Ai @gR (Ai @dr (Ai @HO (Ai @fC @gX)))))) ?_;refine jB (Ai @hx (Ai @cp (Ai @gR (Ai @HO (Ai @qM (Ai @gX @Int.le_refl)))))) ?_;refine jA ?_;refine jI ?_;rw [GY SY (by rw [← hn]; exact h2) (by rw [← hn]; exact h3),← hn];refine ⟨_,_,AV.aA.refl _,AS.le.refl _,rfl,h.Pr ?_⟩;rw [List.take_length]
 ·refine jB (Ai @hx (fL er h0)) ?_;refine jE ?_;refine jA ?_;refine jI ?_;rw [EN h0];exact jW ⟨rfl,h⟩
theorem MN (l : List UInt8) (s : AS) (hl : l.length≤2 ^ 45) : ah prog Γ 35 [aj l .any] s (fun r s'=>∃ p,s.aq p = none∧r = .ptr p 0∧s' = s.set p (dW (l,0))):=dH.open (oe l s hl)
theorem B7 (s : AS) (p : Nat) (st : aX) (h : s.aq p = some (dW st)) : ah prog Γ 96 [.ptr p 0] s (fun r s'=>r = .v (.int .i64 (bm 1 st).1)∧s' = s.set p (dW (bm 1 st).2)):=dH.call (FA _ s p st (dH.at h))
theorem rY (s : AS) (p : Nat) (st : aX) (h : s.aq p = some (dW st)) : ah prog Γ 94 [.ptr p 0] s (fun r s'=>r = .v (.int .u64 (bm 8 st).1)∧s' = s.set p (dW (bm 8 st).2)):=dH.call (tQ _ s p st (dH.at h))
theorem Dw (s : AS) (p : Nat) (st : aX) (most : Int) (hl : st.1.length≤2 ^ 45) (h : s.aq p = some (dW st)) : ah prog Γ 95 [.ptr p 0,.v (.int .i64 most)] s (fun r s'=>r = aj (bq 1 most st).1 .any∧s' = s.set p (dW (bq 1 most st).2)):=dH.call (zc _ s p st most hl (dH.at h))
theorem FB (s : AS) (p : Nat) (st : aX) (most : Int) (hl : st.1.length≤2 ^ 45) (h : s.aq p = some (dW st)) : ah prog Γ 140 [.ptr p 0,.v (.int .i64 most)] s (fun r s'=>r = aj (bq 2 most st).1 .any∧s' = s.set p (dW (bq 2 most st).2)):=dH.call (AL _ s p st most hl (dH.at h))
theorem FC (s : AS) (p : Nat) (st : aX) (e : Int) (h : s.aq p = some (dW st)) : ah prog Γ 139 [.ptr p 0,.v (.int .i64 e)] s (fun r s'=>r = .eJ []∧s' = s.set p (dW (st.1,if st.2 = 0 then e else st.2))):=dH.call (AP _ s p st e (dH.at h))
theorem ve (s : AS) (p : Nat) (st : aX) (h : s.aq p = some (dW st)) : ah prog Γ 38 [.ptr p 0] s (fun r s'=>r = .v (.int .i64 st.2)∧s' = s):=Dv _ s p st (dH.at h)
theorem HM (s : AS) (p : Nat) (st : aX) (h : s.aq p = some (dW st)) : ah prog Γ 39 [.ptr p 0] s (fun r s'=>r = .v (.int .i64 st.1.length)∧s' = s):=AO _ s p st (dH.at h)
theorem fQ (s : AS) (p : Nat) (st : aX) (size : Nat) (hs : size≤8) (hl : st.1.length < 2 ^ 61) (h : s.aq p = some (cI st)) : ah prog Γ 98 [.ptr p 0,.v (.int .i64 size)] s (fun r s'=>r = .v (.int .u64 (bm size st).1)∧s' = s.set p (cI (bm size st).2)):=iT.call (vj _ s p st size hs hl (iT.at h))
theorem tR (s : AS) (p : Nat) (st : aX) (size : Nat) (most : Int) (hs : size≤7) (hl : st.1.length < 2 ^ 61) (h : s.aq p = some (cI st)) : ah prog Γ 99 [.ptr p 0,.v (.int .i64 size),.v (.int .i64 most)] s (fun r s'=>r = .v (.string ⟨(bq size most st).1.toArray⟩)∧s' = s.set p (cI (bq size most st).2)):=iT.call (zd _ s p st size most hs hl (iT.at h))
theorem ca (n : Nat) (s : AS) : ah prog Γ 44 [.v (.int .u64 n)] s (fun r s'=>r = .v (.bool (decide (2≤(n : Int)) && decide ((n : Int)≤2305843009213693949)))∧s' = s):=by
 refine ab func44 rfl ntmps44 results44 (by simp) ?_;rcases ff2 (decide (2≤(n : Int))) (decide ((n : Int)≤2305843009213693949)) with hd | hd | hd;all_goals
  refine jA ?_;refine jB @hd ?_;refine jI ?_;refine jW ⟨?_,rfl⟩;simp only [hd,Bool.and_true,Bool.true_and,Bool.false_and,Bool.and_false]
theorem vk (n : Nat) (s : AS) : ah prog Γ 53 [.v (.int .u64 n)] s (fun r s'=>r = .v (.bool (decide (2≤(n : Int)) && decide ((n : Int)≤2305843009213693949)))∧s' = s):=by
 refine ab func53 rfl ntmps53 results53 (by simp) ?_;rcases ff2 (decide (2≤(n : Int))) (decide ((n : Int)≤2305843009213693949)) with hd | hd | hd;all_goals
  refine jA ?_;refine jB @hd ?_;refine jI ?_;refine jW ⟨?_,rfl⟩;simp only [hd,Bool.and_true,Bool.true_and,Bool.false_and,Bool.and_false]
theorem dg (a b : List UInt8) (s : AS) : ah prog Γ 62 [aj a .any,aj b .any] s (fun r s'=>r = .v (.bool (decide (a = b)))∧s' = s):=by
 refine ab func62 rfl ntmps62 results62 (by simp) ?_;refine jA ?_;refine jB @LG ?_;exact jJ
theorem AQ {a b : Nat} (h : a = b) : (((a : Int) != (b : Int))) = false:=by subst h; simp
theorem Dx {a b : Nat} (h : a≠b) : (((a : Int) != (b : Int))) = true:=by simp; omega
theorem rr {a b : Int} (h : a = b) : (a != b) = false:=by subst h; simp
theorem tS {a b : Int} (h : a≠b) : (a != b) = true:=by simpa using h
theorem tT (a b : List Int) (hl : a.length≤2 ^ 61) (s : AS) : ah prog Γ 231 [aR a .any,aR b .any] s (fun r s'=>r = .v (.bool (decide (a = b)))∧s' = s):=by
 refine ab func231 rfl ntmps231 results231 (by simp) ?_;unfold aR;refine jA ?_;refine wK fun K hK=>?_;by_cases h0 : a.length = b.length
 ·refine jB (AQ h0) ?_;refine jF ?_;refine ag ?_;refine hK _ _ ?_;clear hK K;refine wK fun K hK=>?_;refine jA ?_;refine al ?_;refine aE (fun E s1=>∃ i : Nat,i≤a.length∧E 13 = .v (.int .i64 i)∧E 12 = .v (.int .i64 a.length)∧E 0 = .sl 1 a.length (a.map aV) .any∧E 1 = .sl 1 b.length (b.map aV) .any∧a.take i = b.take i∧s1 = s)
   (fun E _=>match E 13 with | .v (.int _ i)=>a.length - i.toNat | _=>0) ?_ ?_
  ·exact ⟨0,Nat.zero_le _,by simp [aF],by simp [aF],by simp [aF,br],by simp [aF,br],rfl,rfl⟩
  ·rintro E1 s1 ⟨i,hi,MX,AR,h00,h1,he,rfl⟩ -
   by_cases bc : i < a.length
   ·have Vu : i < b.length:=(by omega);refine jB (Ai @MX (Ai @AR (Ai @ax (decide_eq_true bc)))) ?_;refine wK fun K2 aW=>?_;refine jE ?_;refine ag ?_;refine aW _ _ ?_;clear aW K2;refine wK fun K3 bC=>?_;refine al ?_;refine jB @MX ?_;have dr : (0 : Int)≤(i : Int):=(by omega);have dI:=mr bc;have hbt:=mr Vu;by_cases hx : a[i] = b[i]
    ·refine bB T.mixed [] (by kernel_rfl) ?_;intro K hK;refine jV (Ai @MX (Ai @h00 (Ai @h1 (Ai @dr (Ai @ax (Ai @bc (Ai @Vu (Ai @dI (Ai @hbt (rr hx)))))))))) hK ?_;clear hK K;refine jF ?_;refine ag ?_;simp only [aw,az,if_true,if_false];refine bC _ _ ?_;clear bC K3;refine jD (Ai @MX (eE i (by omega))) ?_;refine ⟨⟨i + 1,by omega,rfl,AR,h00,h1,C6 bc Vu he hx,rfl⟩,?_⟩;simp only [MX,aF,↓reduceIte];omega
    ·refine bB T.mixed [] (by kernel_rfl) ?_;intro K hK;refine jV (Ai @MX (Ai @h00 (Ai @h1 (Ai @dr (Ai @ax (Ai @bc (Ai @Vu (Ai @dI (Ai @hbt (tS hx)))))))))) hK ?_;clear hK K;refine jE ?_;refine jA ?_;refine a7 ?_;simp only [az,aw];simp only [cn,bz,bD,dy,List.toList_toArray,↓a8]; try simp only [UP,DF,Nc,↓reduceIte,DT]
     refine jW ⟨?_,rfl⟩;rw [decide_eq_false];intro e;subst e;exact hx rfl
   ·refine jB (Ai @MX (Ai @AR (Ai @ax (decide_eq_false bc)))) ?_;refine wK fun K2 aW=>?_;refine jF ?_;refine aC ?_;simp only [az,aw,if_true];refine hK _ _ ?_;clear hK aW K K2;refine jA ?_;refine jI ?_;refine jW ⟨?_,rfl⟩;rw [List.take_of_length_le (by omega),List.take_of_length_le (by omega)] at he;rw [decide_eq_true he]
 ·refine jB (Dx h0) ?_;refine jE ?_;refine jA ?_;refine jI ?_;refine jW ⟨?_,rfl⟩;rw [decide_eq_false (fun e=>h0 (by rw [e]))];try rfl
theorem ze (N M : ao) (hl : N.kY.length≤2 ^ 61) (s : AS) : ah prog Γ 195 [.agg N.cells,.agg M.cells] s (fun r s'=>r = .v (.bool (decide (N = M)))∧s' = s):=by
 refine ab func195 rfl ntmps195 results195 (by simp) ?_;unfold ao.cells;obtain ⟨k,m,y,p,u⟩:=N;obtain ⟨k',m',y',p',u'⟩:=M;rw [C7];refine jS @aR.eq_1 fun K hK=>?_;intro o ho;intro o' sG;have dp : o≠o':=by
  intro e;subst e;simp [AS.set] at sG
 have hle : s.le ((s.set o [.v (.int .i64 k),aj m .any,.v (.int .u64 y),aj p .any,aR u .any]).set o' [.v (.int .i64 k'),aj m' .any,.v (.int .u64 y'),aj p' .any,aR u' .any]):=AS.aB (AS.aB (AS.le.refl s) ho _) (by simpa [AS.set,aF,dp.symm] using sG) _;refine hK _ _ ?_;clear hK K;rcases ff5 (k == k') ((y : Int) == (y' : Int)) (decide (m = m')) (decide (p = p')) (decide (u = u')) with hd | hd | hd | hd | hd | hd
 ·refine jB (Ai @dp (Ai @hd @aR.eq_1)) ?_;refine jI ?_;refine ⟨_,s,AV.aA.refl _,hle,?_,rfl⟩;simp only [hd,Bool.and_true,Bool.true_and,Bool.false_and,Bool.and_false];try rfl
 ·refine jB (Ai @dp (Ai @hd @aR.eq_1)) ?_;refine jI ?_;refine ⟨_,s,AV.aA.refl _,hle,?_,rfl⟩;simp only [hd,Bool.and_true,Bool.true_and,Bool.false_and,Bool.and_false];try rfl
 ·refine jS (Ai @dp (Ai @hd @aR.eq_1)) fun K hK=>?_;refine ad (dg m m' _) ?_;rintro r s' ⟨rfl,rfl⟩;refine jV (Ai @dp (Ai @hd @aR.eq_1)) hK ?_;clear hK K;refine jI ?_;refine ⟨_,s,AV.aA.refl _,hle,?_,rfl⟩;simp only [hd,Bool.and_true,Bool.true_and,Bool.false_and,Bool.and_false];try rfl
 ·refine jS (Ai @dp (Ai @hd @aR.eq_1)) fun K hK=>?_;refine ad (dg m m' _) ?_;rintro r s' ⟨rfl,rfl⟩;refine jN (Ai @dp (Ai @hd @aR.eq_1)) ?_;refine ad (dg p p' _) ?_;rintro r s' ⟨rfl,rfl⟩;refine jV (Ai @dp (Ai @hd @aR.eq_1)) hK ?_;clear hK K;refine jI ?_;refine ⟨_,s,AV.aA.refl _,hle,?_,rfl⟩;simp only [hd,Bool.and_true,Bool.true_and,Bool.false_and,Bool.and_false];try rfl
 all_goals
  refine jS (Ai @dp (Ai @hd @aR.eq_1)) fun K hK=>?_;refine ad (dg m m' _) ?_;rintro r s' ⟨rfl,rfl⟩;refine jN (Ai @dp (Ai @hd @aR.eq_1)) ?_;refine ad (dg p p' _) ?_;rintro r s' ⟨rfl,rfl⟩;refine jN (Ai @dp (Ai @hd @aR.eq_1)) ?_;refine ad (tT u u' hl _) ?_;rintro r s' ⟨rfl,rfl⟩;refine jV (Ai @dp (Ai @hd @aR.eq_1)) hK ?_;clear hK K;refine jI ?_;refine ⟨_,s,AV.aA.refl _,hle,?_,rfl⟩;simp only [hd,Bool.and_true,Bool.true_and,Bool.false_and,Bool.and_false];try rfl
end Go.Proofs.YtbiefppedlodiaaGreatDoor
