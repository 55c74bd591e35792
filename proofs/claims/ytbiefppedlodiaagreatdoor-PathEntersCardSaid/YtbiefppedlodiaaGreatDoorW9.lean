/- Contracts of functions, each walked once; each theorem states its conditions. -/
import Derived.Test.YtbiefppedlodiaaGreatDoorAMp6
import Derived.Test.YtbiefppedlodiaaGreatDoorW1
import Derived.Test.YtbiefppedlodiaaGreatDoorW8
import Derived.Test.YtbiefppedlodiaaGreatDoorW6
import Derived.Test.YtbiefppedlodiaaGreatDoorW7
import Derived.Test.YtbiefppedlodiaaGreatDoorAMp5
import Derived.Test.YtbiefppedlodiaaGreatDoorW2
import Derived.Test.YtbiefppedlodiaaGreatDoorW5
import Derived.Test.YtbiefppedlodiaaGreatDoorW4
import Derived.Test.YtbiefppedlodiaaGreatDoorAMp7
import Derived.Test.YtbiefppedlodiaaGreatDoorW3
set_option linter.unusedSimpArgs false
set_option linter.unusedVariables false
open Nat renaming reduceLT → Na, reduceLeDiff → Nb, reduceEqDiff → Nc, reduceAdd → Nk, reduceMul → Nf, reducePow → Ng, reduceSub → Nh, reduceBEq → Nz
open Int renaming reduceLT → Za, reduceLE → Zb, reduceToNat → Zc
open And renaming intro → Ai
open Go.AM renaming ashift → Qa, aconv → Qb, aindexAddr → Qc, aindex → Qd, aslice → Qe, abuiltin → Qf, awp_reg_seq → wS, awp_reg_end → wE, awp_seq_k → wK, awp_cond_k → wC
open Go.AM.AV renaming cells → Qg, one → Qh
set_option maxRecDepth 100000
set_option maxHeartbeats 8000000
namespace Go.Proofs.YtbiefppedlodiaaGreatDoor
open Go Go.AM Go.Proofs Tryz
variable {Γ : Nat→List AV}
theorem A4 (info : List UInt8) (h : info.length≤60000) : Kdf.fits Hpke.sX info 48 = true:=by
 simp [Kdf.fits,Hpke.sX]; omega
theorem vd (info : List UInt8) (h : info.length≤60000) : Kdf.fits Hpke.yf info 16 = true:=by
 simp [Kdf.fits,Hpke.yf]; omega
theorem LO (s info : List UInt8) (h : info.length≤60000) : (Hpke.hk s info).length = 48:=by
 rw [Hpke.hk,Kdf.label,A4 info h,if_pos rfl];exact Kdf.gu _ _ _
theorem LP (s info : List UInt8) (h : info.length≤60000) : (Hpke.hn s info).length = 16:=by
 rw [Hpke.hn,Kdf.label,vd info h,if_pos rfl];exact Kdf.gu _ _ _
theorem OL (a b c : Nat) : (Hpke.sec a b c).length = 32:=Mac.lL _ _
theorem LQ (a b c : Nat) : Mac.tag [] ([be 8 a,be 8 b,be 8 c].flatten) = Hpke.sec a b c:=by
 rw [Hpke.sec]; simp
theorem ve (dO : Γ 0 = dV Sha.H0) (hG : Γ 1 = Sha.K.map wV) (a b c : Nat) (info : List UInt8) (hb : b < 2 ^ 64) (hc : c < 2 ^ 64) (hi : info.length≤60000) (s : AS) :
  ai prog Γ 153 [aj (be 8 a) .any,.v (.int .u64 b),.v (.int .u64 c),aj info .any] s
   (fun r s'=>r = .dX [aj (Hpke.hk (Hpke.sec a b c) info) .any,aj (Hpke.hn (Hpke.sec a b c) info) .any,.v (.bool true)]∧s' = s):=by
 refine aa func153 rfl ntmps153 results153 (by simp) ?_;have YF : ∀ x : AV,List.replicate 3 x = [x,x,x]:=fun _=>rfl;have H6:=fun s=>kn (Γ:=Γ) [be 8 a,be 8 b,be 8 c] .new (by simp) (by simp) s;have hex:=fun s=>zz (Γ:=Γ) dO hG [] ([be 8 a,be 8 b,be 8 c].flatten) (by simp) (by simp) s;rw [LQ] at hex;have oW : ([be 8 a,be 8 b,be 8 c].flatten).length = 24:=(by simp);have tb:=OL a b c;have h1:=fun s=>jj (Γ:=Γ) dO hG (Hpke.sec a b c) Hpke.sX info 48 (by omega) (by decide) (by omega) (by decide) s;have h2:=fun s=>jj (Γ:=Γ) dO hG (Hpke.sec a b c) Hpke.yf info 16 (by omega) (by decide) (by omega) (by decide) s;rw [A4 info hi] at h1;rw [vd info hi] at h2;change ∀ s,ai _ _ _ _ s (fun r s'=>r = .dX [aj (Hpke.hk (Hpke.sec a b c) info) .any,_]∧s' = s) at h1;change ∀ s,ai _ _ _ _ s (fun r s'=>r = .dX [aj (Hpke.hn (Hpke.sec a b c) info) .any,_]∧s' = s) at h2;generalize [be 8 a,be 8 b,be 8 c].flatten = F at *
 generalize Hpke.hk (Hpke.sec a b c) info = k at *
 generalize Hpke.hn (Hpke.sec a b c) info = n at *
 generalize Hpke.sec a b c = S at *
 refine jA ?_;refine jQ fun K hK=>?_;refine ad (jy b hb _) ?_;rintro r s1 ⟨rfl,rfl⟩;refine jM ?_;refine ad (jy c hc _) ?_;rintro r s2 ⟨rfl,rfl⟩;refine jN @YF ?_;refine ad (H6 _) ?_;intro r s3 bx;obtain ⟨t,e,rfl⟩:=cg bx (by rw [← List.length_pos_iff,oW]; decide);have gb:=bx.1;clear bx;refine jM ?_;refine ad (ai.gz (fU.aB.cons (AV.aI (sz:=1)) (fU.aB.cons (AV.bQ) fU.aB.nil)) (hex _)) ?_;intro r s4 bx;obtain ⟨t4,e4,rfl⟩:=cg bx (by rw [← List.length_pos_iff,tb]; decide);have ib:=gb.trans bx.1;clear bx;refine jR hK ?_;clear hK K;refine jK (ai.gz (fU.aB.cons (AV.bQ) (fU.aB.refl _)) (h1 _)) ?_;rintro s5 rfl;refine jK (ai.gz (fU.aB.cons (AV.bQ) (fU.aB.refl _)) (h2 _)) ?_;rintro s6 rfl;refine jA ?_;refine jI ?_;exact ⟨_,_,AV.aB.refl _,ib,rfl,rfl⟩
def uS (n : Nat) : Prop:=2≤n∧n≤2305843009213693949
instance (n : Nat) : Decidable (uS n):=by unfold uS; infer_instance
theorem Ef {n : Nat} (h : uS n) : (decide (2≤(n : Int)) && decide ((n : Int)≤2305843009213693949)) = true:=by
 obtain ⟨h1,h2⟩:=h;simp only [Bool.and_eq_true,decide_eq_true_eq]; omega
theorem He (a : Nat) : a % PP < 2 ^ 64:=by have:=cQ a; have:=Hd; omega
def gU (draw : List UInt8) : Nat:=3 ^ cI draw % PP
def lX (pub : Nat) (draw : List UInt8) : List UInt8:=Hpke.sec (pub ^ cI draw % PP) (gU draw) pub
def gW (pub : Nat) (info beside text draw : List UInt8) : List UInt8:=Aes.dF (Hpke.hk (lX pub draw) info) (Hpke.hn (lX pub draw) info) beside text
def pj (key iW : Nat) : List UInt8:=Hpke.sec (iW ^ key % PP) iW (3 ^ key % PP)
def nz (key iW : Nat) (text info beside : List UInt8) : List UInt8:=ig (Hpke.hk (pj key iW) info) (Hpke.hn (pj key iW) info) beside text
def nA (key iW : Nat) (text info beside : List UInt8) : Nat:=ij (Hpke.hk (pj key iW) info) (Hpke.hn (pj key iW) info) beside text
theorem JP (dO : Γ 0 = dV Sha.H0) (hG : Γ 1 = Sha.K.map wV) (pub : Nat) (hp : uS pub) (info beside text draw : List UInt8) (hi : info.length≤60000) (hb : beside.length≤2 ^ 30) (ht : text.length≤2 ^ 30) (hd : draw.length≤2 ^ 36) (s : AS) :
  ai prog Γ 107 [.v (.int .u64 pub),aj info .any,aj beside .any,aj text .any,aj draw .any] s
   (fun r s'=>r = .dX [.agg [.v (.int .u64 (gU draw)),aj (gW pub info beside text draw) .any],.v (.int .i64 ((0 : Nat) : Int))]∧s' = s):=by
 refine aa func107 rfl ntmps107 results107 (by simp) ?_;have LR : pub < 2 ^ 64:=(by have:=hp.2; omega);have hke:=tH draw;have c1:=fun s=>ng (Γ:=Γ) dO hG draw hd s;have c2:=fun s=>eH (Γ:=Γ) (cI draw) (by omega) s;have c3:=fun s=>nW (Γ:=Γ) (cI draw) pub (by omega) LR s;have c4:=fun s=>ve (Γ:=Γ) dO hG (pub ^ cI draw % PP) (gU draw) pub info (He _) LR hi s;have tI:=LO (lX pub draw) info hi;have Au:=LP (lX pub draw) info hi;have c5:=fun s=>F8 (Γ:=Γ) dO hG (Hpke.hk (lX pub draw) info) (Hpke.hn (lX pub draw) info) beside text hb ht s;simp only [show yt (Hpke.hk (lX pub draw) info) (Hpke.hn (lX pub draw) info) beside text = gW pub info beside text draw from by unfold yt; rw [if_pos ⟨tI,Au⟩]; rfl,show yu (Hpke.hk (lX pub draw) info) (Hpke.hn (lX pub draw) info) = 0 from by unfold yu; rw [if_pos ⟨tI,Au⟩]] at c5;simp only [show Hpke.sec (pub ^ cI draw % PP) (gU draw) pub = lX pub draw from rfl] at c4;simp only [show 3 ^ cI draw % PP = gU draw from rfl] at c2;generalize gW pub info beside text draw = z at *
 generalize Hpke.hk (lX pub draw) info = k at *
 generalize Hpke.hn (lX pub draw) info = n at *
 generalize pub ^ cI draw % PP = sh at *
 generalize gU draw = f at *
 generalize cI draw = e at *
 refine jQ fun K hK=>?_;intro o ho;refine hK _ _ ?_;clear hK K;refine wK fun K hK=>?_;refine jQ fun K hK=>?_;refine ad (cb pub _) ?_;rintro r s1 ⟨rfl,rfl⟩;refine jV (Ef hp) hK ?_;clear hK K;refine jF ?_;refine ab ?_;refine hK _ _ ?_;clear hK K;refine jK (c1 _) ?_;rintro s2 rfl;refine jK (c2 _) ?_;rintro s3 rfl;refine jQ fun K hK=>?_;refine ad (c3 _) ?_;rintro r s4 ⟨rfl,rfl⟩;refine jM ?_;refine ad (c4 _) ?_;rintro r s5 ⟨rfl,rfl⟩;refine jR hK ?_;clear hK K;refine wK fun K hK=>?_;refine jA ?_;refine jF ?_;refine ab ?_;refine hK _ _ ?_;clear hK K;refine jK (c5 _) ?_;rintro s6 rfl;refine wK fun K hK=>?_;refine jB (show (((0 : Nat) : Int) != 0) = false from rfl) ?_;refine jF ?_;refine ab ?_;refine hK _ _ ?_;clear hK K;refine jA ?_;refine aW ?_;refine kL (o:=o) (off:=0) rfl (AS.ae _ _ _) (by rw [T.c78]; decide) (by simp only [↓DN,Qa,Qb,Qc,Qd,Qe,Qf,Qg,Qh,reduceCtorEq,↓reduceIte,Na,Nb,Nc,Nk,Nf,Ng,Nh,Za,Zb,Zc,TT]; rfl) ?_;exact ⟨_,s,AV.aB.refl _,AS.aE (AS.le.refl s) ho _,rfl,rfl⟩
def yx (key iW : Nat) : Prop:=uS iW∧1≤key∧key≤2305843009213693949
instance (key iW : Nat) : Decidable (yx key iW):=by unfold yx; infer_instance
theorem LS (dO : Γ 0 = dV Sha.H0) (hG : Γ 1 = Sha.K.map wV) (key iW : Nat) (hk : yx key iW) (text info beside : List UInt8) (hi : info.length≤60000) (hb : beside.length≤2 ^ 30) (ht : text.length≤2 ^ 30) (s : AS) :
  ai prog Γ 132 [.v (.int .u64 key),.agg [.v (.int .u64 iW),aj text .any],aj info .any,aj beside .any] s
   (fun r s'=>r = .dX [aj (nz key iW text info beside) .any,.v (.int .i64 ((nA key iW text info beside : Nat) : Int))]∧s' = s):=by
 refine aa func132 rfl ntmps132 results132 (by simp) ?_;obtain ⟨hp,h1,h2⟩:=hk;have LR : iW < 2 ^ 64:=(by have:=hp.2; omega);have c2:=fun s=>eH (Γ:=Γ) key (by omega) s;have c3:=fun s=>nW (Γ:=Γ) key iW (by omega) LR s;have c4:=fun s=>ve (Γ:=Γ) dO hG (iW ^ key % PP) iW (3 ^ key % PP) info LR (He _) hi s;have tI:=LO (pj key iW) info hi;have Au:=LP (pj key iW) info hi;have c5:=fun s=>vL (Γ:=Γ) dO hG (Hpke.hk (pj key iW) info) (Hpke.hn (pj key iW) info) beside text hb ht s;simp only [show SE (Hpke.hk (pj key iW) info) (Hpke.hn (pj key iW) info) beside text = nz key iW text info beside from by unfold SE; rw [if_pos ⟨tI,Au⟩]; rfl,show SF (Hpke.hk (pj key iW) info) (Hpke.hn (pj key iW) info) beside text = nA key iW text info beside from by unfold SF; rw [if_pos ⟨tI,Au⟩]; rfl] at c5;simp only [show Hpke.sec (iW ^ key % PP) iW (3 ^ key % PP) = pj key iW from rfl] at c4;generalize nz key iW text info beside = z at *
 generalize nA key iW text info beside = y at *
 generalize Hpke.hk (pj key iW) info = k at *
 generalize Hpke.hn (pj key iW) info = n at *
 generalize iW ^ key % PP = sh at *
 generalize 3 ^ key % PP = to at *
 refine aY 5 (by simp [ct]) ?_;intro K hK;refine jM ?_;intro o ho;refine hK _ _ o _ rfl ho ?_;clear hK K ho;refine wK fun K hK=>?_;refine jQ fun K hK=>?_;refine ad (cb iW _) ?_;rintro r s1 ⟨rfl,rfl⟩;refine jV (Ai (Ef hp) (Ai (decide_eq_false (show ¬ (key : Int) < 1 by omega)) (decide_eq_false (show ¬ (2305843009213693949 : Int) < (key : Int) by omega)))) hK ?_;clear hK K;refine jF ?_;refine ab ?_;refine hK _ _ ?_;clear hK K;refine bn T.mixed [3,7,9] (by kernel_rfl) ?_;intro K hK;refine jM ?_;refine ad (c3 _) ?_;rintro r s2 ⟨rfl,rfl⟩;refine jM ?_;refine ad (c2 _) ?_;rintro r s3 ⟨rfl,rfl⟩;refine jM ?_;refine ad (c4 _) ?_;rintro r s4 ⟨rfl,rfl⟩;refine jR hK ?_;clear hK K;refine wK fun K hK=>?_;refine jA ?_;refine jF ?_;refine ab ?_;refine hK _ _ ?_;clear hK K;refine jK (c5 _) ?_;rintro s5 rfl;exact jJ
theorem J6 (d : List UInt8) : gU d = 3 ^ cI d % PP:=rfl
theorem LU (a b : Nat) : (3 ^ a % PP) ^ b % PP = (3 ^ b % PP) ^ a % PP:=by
  rw [← Nat.pow_mod,← Nat.pow_mod,← Nat.pow_mul,← Nat.pow_mul,Nat.mul_comm]
theorem Eg (k : Nat) (draw : List UInt8) : pj k (gU draw) = lX (3 ^ k % PP) draw:=by
  unfold pj lX gU;rw [LU]
theorem Rp (k : Nat) (info beside text draw : List UInt8) : nz k (gU draw) (gW (3 ^ k % PP) info beside text draw) info beside = text:=by
  unfold nz gW;rw [Eg,yv]
theorem Rq (k : Nat) (info beside text draw : List UInt8) : nA k (gU draw) (gW (3 ^ k % PP) info beside text draw) info beside = 0:=by
  unfold nA gW;rw [Eg,yw]
def ei : List UInt8:=[112,97,116,104]
def nX : List UInt8:=[110,111,100,101]
def Eh : List UInt8:=[115,101,97,108]
def b7 (d : List UInt8) : Nat→List UInt8
 | 0=>d
 | k + 1=>Kdf.derive (b7 d k) ei
def lr (x : List UInt8) : Nat:=cI (Kdf.derive x nX)
theorem gZ (x l : List UInt8) : (Kdf.derive x l).length = 32:=by
 rw [Kdf.derive,Kdf.label,u7,if_pos rfl];exact Kdf.gu _ _ _
theorem yy (d : List UInt8) (h : d.length≤2 ^ 36) : ∀ k,(b7 d k).length≤2 ^ 36
 | 0=>h
 | k + 1=>by rw [b7,gZ]; decide
theorem pE (d : List UInt8) (k : Nat) : (b7 d (k + 1)).length = 32:=gZ _ _
theorem BG (x : List UInt8) : lr x < 2 ^ 64:=by have:=tH (Kdf.derive x nX); unfold lr; omega
theorem lY (dO : Γ 0 = dV Sha.H0) (gl : Γ 1 = Sha.K.map wV) (x : List UInt8) (hx : x.length≤2 ^ 36) (s : AS) : ai prog Γ 49 [aj x .any] s (fun r s'=>r = .v (.int .u64 (lr x : Nat))∧s' = s):=by
 refine aa func49 rfl ntmps49 results49 (by simp) ?_;have h1:=fun s=>kg (Γ:=Γ) dO gl x nX hx (by decide) s;have h2:=fun s=>ng (Γ:=Γ) dO gl (Kdf.derive x nX) (by rw [gZ]; decide) s;obtain ⟨k,hk⟩ : ∃ k,k = lr x:=⟨_,rfl⟩;rw [← hk];rw [show cI (Kdf.derive x nX) = k from hk.symm] at h2;generalize Kdf.derive x nX = y at *
 unfold nX at h1;refine jA ?_;refine jQ fun K hK=>?_;refine ad (h1 _) ?_;rintro r s1 ⟨rfl,rfl⟩;refine jM ?_;refine ad (h2 _) ?_;rintro r s2 ⟨rfl,rfl⟩;refine jR hK ?_;clear hK K;exact jJ
theorem uq (x : List UInt8) (hx : x.length≤2 ^ 36) (s : AS) : ai prog Γ 55 [.v (.string ⟨x.toArray⟩)] s (fun r s'=>r = .v (.int .u64 (lr x : Nat))∧s' = s):=by
 refine aa func55 rfl ntmps55 results55 (by simp) ?_;have h1:=fun s=>nT (Γ:=Γ) x nX hx (by decide) s;have h2:=fun s=>pc (Γ:=Γ) (Kdf.derive x nX) (by rw [gZ]; decide) s;obtain ⟨k,hk⟩ : ∃ k,k = lr x:=⟨_,rfl⟩;rw [← hk];rw [show cI (Kdf.derive x nX) = k from hk.symm] at h2;generalize Kdf.derive x nX = y at *
 unfold nX at h1;refine jA ?_;refine jQ fun K hK=>?_;refine ad (h1 _) ?_;rintro r s1 ⟨rfl,rfl⟩;refine jM ?_;refine ad (h2 _) ?_;rintro r s2 ⟨rfl,rfl⟩;refine jR hK ?_;clear hK K;exact jJ
theorem oQ (dO : Γ 0 = dV Sha.H0) (gl : Γ 1 = Sha.K.map wV) (d : List UInt8) (hd : d.length≤2 ^ 36) (n : Nat) (hn : n≤2 ^ 40) (s : AS) : ai prog Γ 25 [aj d .any,.v (.int .i64 n)] s (fun r s'=>r = aj (b7 d (n + 1)) .any∧s' = s):=by
 refine aa func25 rfl ntmps25 results25 (by simp) ?_;unfold aj;have e1 : dP .i64 (n : Int) 1 = ((n + 1 : Nat) : Int):=bj n (by omega);refine jA ?_;refine wK fun K hK=>?_;refine jB @e1 ?_;refine ag ?_;refine aC (fun E s2=>∃ (i : Nat) (x : List UInt8),x = b7 d i∧i≤n + 1∧E 7 = .v (.int .i64 i)∧E 6 = .v (.int .i64 (n + 1 : Nat))∧E 0 = .sl 1 x.length (x.map ah) .any∧s2 = s)
  (fun E _=>match E 7 with | .v (.int _ i)=>n + 1 - i.toNat | _=>0) ?_ ?_
 ·exact ⟨0,d,rfl,Nat.zero_le _,rfl,rfl,rfl,rfl⟩
 ·rintro E1 s2 ⟨i,x,hx,hi,g7,g6,g0,rfl⟩ -
  have hc:=yy d hd i;rw [← hx] at hc;by_cases aX : i < n + 1
  ·have h1:=fun s=>kg (Γ:=Γ) dO gl x ei hc (by decide) s;have h2 : Kdf.derive x ei = b7 d (i + 1):=(by rw [hx]; rfl);generalize Kdf.derive x ei = y at *
   unfold ei aj at h1;refine jB (Ai @g7 (Ai @g6 (Ai @ax (decide_eq_true aX)))) ?_;refine wK fun K2 aV=>?_;refine jE ?_;refine ab ?_;refine aV _ _ ?_;clear aV K2;refine wK fun K3 br=>?_;refine ag ?_;refine jU @g0 fun K hK=>?_;refine ad (h1 _) ?_;rintro r s3 ⟨rfl,rfl⟩;refine jR hK ?_;clear hK K;refine br _ _ ?_;clear br K3;refine jD (Ai @g7 (bj i (by omega))) ?_;refine ⟨⟨i + 1,y,h2,aX,rfl,g6,rfl,rfl⟩,?_⟩;simp only [g7,aF,↓reduceIte];omega
  ·obtain rfl : i = n + 1:=(by omega);rw [← hx] at hK;have h2:=fun s=>fB (Γ:=Γ) x s (by omega);unfold aj at h2;have bI : ¬ (n + 1) < n + 1:=(by omega);refine jB (Ai @g7 (Ai @g6 (Ai @ax (decide_eq_false bI)))) ?_;refine wK fun K2 aV=>?_;refine jF ?_;refine aA ?_;simp only [az,ar,if_true];refine hK _ _ ?_;clear hK aV K2 K;refine jS @g0 fun K hK=>?_;refine ad (h2 _) ?_;rintro r s3 ⟨rfl,rfl⟩;refine jR hK ?_;clear hK K;exact jJ
end Go.Proofs.YtbiefppedlodiaaGreatDoor
namespace Go.AM
structure bB where
  node : Int
  key : Nat
  deriving DecidableEq
def bB.cells (h : bB) : List AV:=[.v (.int .i64 h.node),.v (.int .u64 h.key)]
def ec (l : List bB) : AV:=.sl 2 l.length (aQ bB.cells l) .any
theorem gX {α : Type} (c : α→List AV) (a b : List α) : aQ c (a ++ b) = aQ c a ++ aQ c b:=by simp [aQ]
end Go.AM
namespace Go.Proofs.YtbiefppedlodiaaGreatDoor
open Go Go.AM Go.Proofs Tryz
variable {Γ : Nat→List AV}
theorem qn (l : List bB) (hl : l.length≤2 ^ 61) (sp : Sp) (k : FuncId) (hk : af prog k = true) (b6 : List AV) (P : bB→Bool)
  (hP : ∀ x ∈ l,∀ s,ai prog Γ k (.agg x.cells :: b6) s (fun r s'=>r = .v (.bool (P x))∧s' = s)) (s : AS) :
  ai prog Γ 130 [.sl 2 l.length (aQ bB.cells l) sp,.pI k b6] s (fun r s'=>r = .v (.int .i64 (bZ (fun i=>P (l.getD i ⟨0,0⟩)) l.length 0))∧s' = s):=by
 refine aa func130 rfl ntmps130 results130 (by simp) ?_;obtain ⟨Q,hQ⟩ : ∃ Q : Nat→Bool,Q = fun i=>P (l.getD i ⟨0,0⟩):=⟨_,rfl⟩;rw [← hQ];have vx:=fun i (h : i < l.length)=>ni (c:=bB.cells) (k:=2) (fun _=>rfl) h;generalize aQ bB.cells l = Y at *
 refine jA ?_;refine wK fun K hK=>?_;refine jA ?_;refine ag ?_;refine aC (fun E s2=>∃ i : Nat,i≤l.length∧bZ Q (l.length - i) i = bZ Q l.length 0∧E 8 = .v (.int .i64 i)∧E 7 = .v (.int .i64 l.length)∧E 0 = .sl 2 l.length Y sp∧E 1 = .pI k b6∧s2 = s)
  (fun E _=>match E 8 with | .v (.int _ i)=>l.length - i.toNat | _=>0) ?_ ?_
 ·exact ⟨0,Nat.zero_le _,rfl,rfl,rfl,rfl,rfl,rfl⟩
 ·rintro E1 s2 ⟨i,hi,hf,g8,g7,g0,g1,rfl⟩ -
  by_cases aX : i < l.length
  ·refine jB (Ai @g8 (Ai @g7 (Ai @ax (decide_eq_true aX)))) ?_;refine wK fun K2 aV=>?_;refine jE ?_;refine ab ?_;refine aV _ _ ?_;clear aV K2;refine wK fun K3 br=>?_;refine ag ?_;have tV : Q i = P l[i]:=(by rw [hQ]; simp [List.getD,aX]);have hc:=hP l[i] (List.getElem_mem aX) s2;rw [← tV] at hc;obtain ⟨k',IJ⟩ : ∃ k',l.length - i = k' + 1:=⟨l.length - i - 1,by omega⟩;have Cq : l.length - (i + 1) = k':=(by omega);rw [IJ] at hf;have dw:=vx i aX;have cz : (0 : Int)≤(i : Int):=(by omega);generalize l[i] = q at *
   unfold bB.cells at dw hc;refine jB @g8 ?_;refine jS (Ai @g1 (Ai @g0 (Ai @ax (Ai @aX (Ai @cz @dw))))) fun K hK=>?_;refine ⟨hk,?_⟩;refine ad hc ?_;rintro r s3 ⟨rfl,rfl⟩;cases hq : Q i with
   | true =>
    refine jR hK ?_;clear hK K;refine jE ?_;refine jA ?_;refine jI ?_;rw [← hf,jf hq];exact jW ⟨rfl,rfl⟩
   | false =>
    refine jR hK ?_;clear hK K;refine jF ?_;refine ab ?_;simp only [ar,az,if_true,if_false];refine br _ _ ?_;clear br K3;refine jD (Ai @g8 (bj i (by omega))) ?_;refine ⟨⟨i + 1,by omega,by rw [Cq,← hf,je hq],rfl,g7,g0,g1,rfl⟩,?_⟩;simp only [g8,aF,↓reduceIte];omega
  ·refine jB (Ai @g8 (Ai @g7 (Ai @ax (decide_eq_false aX)))) ?_;refine wK fun K2 aV=>?_;refine jF ?_;refine aA ?_;simp only [az,ar,if_true];refine hK _ _ ?_;clear hK aV K2 K;rw [show l.length - i = 0 by omega] at hf;refine jA ?_;refine jI ?_;rw [← hf];exact jW ⟨rfl,rfl⟩
theorem zD (l : List bB) (hl : l.length≤2 ^ 61) (sp : Sp) (k : FuncId) (hk : af prog k = true) (b6 : List AV) (P : bB→Bool)
  (hP : ∀ x ∈ l,∀ s,ai prog Γ k (.agg x.cells :: b6) s (fun r s'=>r = .v (.bool (P x))∧s' = s)) (uu : ∀ x ∈ l,P x = false) (s : AS) :
  ai prog Γ 81 [.sl 2 l.length (aQ bB.cells l) sp,.pI k b6] s (fun r s'=>r = .sl 2 l.length (aQ bB.cells l) sp∧s' = s):=by
 refine aa func81 rfl ntmps81 results81 (by simp) ?_;have pL:=qn (Γ:=Γ) l hl sp k hk b6 P hP s;have hn : bZ (fun i=>P (l.getD i ⟨0,0⟩)) l.length 0 = -1:=by
  rcases jd (fun i=>P (l.getD i ⟨0,0⟩)) l.length 0 with ⟨h,-⟩ | ⟨i,-,hi,hp,-,-⟩
  ·exact h
  ·have aX : i < l.length:=(by omega);simp only [List.getD,aX,List.getElem?_eq_getElem,Option.getD_some] at hp;rw [uu _ (List.getElem_mem aX)] at hp;cases hp
 rw [hn] at pL;generalize aQ bB.cells l = Y at *
 refine jA ?_;refine jK pL ?_;rintro s1 rfl;refine wK fun K hK=>?_;refine jA ?_;refine jE ?_;refine jA ?_;exact jJ
theorem vM (l : List bB) (h0 : l.length≠0) (hl : l.length≤2 ^ 40) (s : AS) : ai prog Γ 82 [ec l] s (fun r s'=>∃ t,r = .sl 2 l.length (aQ bB.cells l) (.own t 0)∧s.own t = none∧s' = s.bC t 0):=by
 refine aa func82 rfl ntmps82 results82 (by simp) ?_;have ln : (aQ bB.cells l).all AV.one = true:=by
  rw [List.all_eq_true];intro c hc;simp only [aQ,List.mem_flatten,List.mem_map] at hc;obtain ⟨_,⟨n,-,rfl⟩,hc⟩:=hc;simp only [bB.cells,List.mem_cons,List.not_mem_nil,or_false] at hc;rcases hc with rfl | rfl <;> rfl
 unfold ec;generalize aQ bB.cells l = X at *
 refine jA ?_;refine wK fun K hK=>?_;refine jB @h0 ?_;refine jF ?_;refine ab ?_;refine hK _ _ ?_;clear hK K;refine jS (Ai @h0 @ln) fun K hK=>?_;refine ⟨by omega,by omega,fun t ht=>?_⟩;refine hK _ _ ?_;clear hK K;refine jI ?_;exact jW ⟨t,rfl,ht,rfl⟩
end Go.Proofs.YtbiefppedlodiaaGreatDoor
namespace Go.AM
open Go
theorem OM : ∀ n < 63,2 * lo n + 2 ^ lv n = n + 1∧2 * hi n + 1 = n + 2 ^ lv n:=by decide +kernel
theorem ON : ∀ n < 63,∀ l < 5,lv n = l + 1→2 ^ l≤n∧lv (n - 2 ^ l) = l∧lv (n + 2 ^ l) = l∧n + 2 ^ l < 63:=by decide +kernel
def kS (x n : Nat) : Prop:=n < x + 2 ^ lv n∧x < n + 2 ^ lv n
instance (x n : Nat) : Decidable (kS x n):=by unfold kS; infer_instance
theorem Ei {t : List al} {skip : List Int} {n : Nat} {x : Int} (h : x ∈ qe skip (nd t n) n) : x = (n : Int)∧(nd t n).kind≠0:=by
  unfold qe at h;split at h
  · rename_i hk;refine ⟨by simpa using h,?_⟩;rcases hk with ⟨hk,-⟩ | hk <;> rw [hk] <;> decide
  · cases h
theorem Hf {t : List al} (hr : bw t) {skip : List Int} {n : Nat} (hn : n < 63) (ht : n < t.length) {x : Int} (h : x ∈ n9 skip (nd t n).jk) : ∃ m : Nat,x = (m : Int)∧m < t.length∧(nd t m).kind≠0∧kS m n:=by
  unfold n9 at h;rw [List.mem_map] at h;obtain ⟨u,hu,rfl⟩:=h;rw [List.mem_filter] at hu;obtain ⟨h1,h2,h3⟩:=(hr.2.1 n ht).1.2.2 u hu.1;obtain ⟨h4,h5,h6⟩:=h3;unfold kR at h1 h2;rw [if_pos (by omega)] at h1 h2;simp only [Int.toNat_natCast] at h1 h2;have Ry:=OM n hn;have bI:=Kb (t:=t) (i:=u.toNat) (by omega);refine ⟨2 * u.toNat,by omega,bI,by rw [h6]; decide,?_⟩;unfold kS;omega
theorem yz {t : List al} (hr : bw t) (skip : List Int) : ∀ l n,lv n = l→n < 63→n + 2 ^ l≤t.length→∀ x ∈ ly t skip l n,∃ m : Nat,x = (m : Int)∧m < t.length∧(nd t m).kind≠0∧kS m n
  | 0,n=>fun hl hn ht x h=>by
    simp only [ly] at h;rcases List.mem_append.1 h with h | h
    · obtain ⟨rfl,hk⟩:=Ei h;exact ⟨n,rfl,by omega,hk,by unfold kS; rw [hl]; omega⟩
    · exact Hf hr hn (by omega) h
  | l + 1,n=>fun hl hn ht x h=>by
    have hp:=Nat.two_pow_pos l;have RD : 2 ^ (l + 1) = 2 ^ l + 2 ^ l:=(by rw [Nat.pow_succ]; omega);have hl5:=nG n;simp only [ly] at h;split at h
    · obtain ⟨k1,k2,k3,k4⟩:=ON n hn l (by omega) hl;rcases List.mem_append.1 h with h | h
      · obtain ⟨m,h1,h2,h3,h4⟩:=yz hr skip l (n - 2 ^ l) k2 (by omega) (by omega) x h;unfold kS at h4;rw [k2] at h4;exact ⟨m,h1,h2,h3,by unfold kS; rw [hl]; omega⟩
      · obtain ⟨m,h1,h2,h3,h4⟩:=yz hr skip l (n + 2 ^ l) k3 k4 (by omega) x h;unfold kS at h4;rw [k3] at h4;exact ⟨m,h1,h2,h3,by unfold kS; rw [hl]; omega⟩
    · rcases List.mem_append.1 h with h | h
      · obtain ⟨rfl,hk⟩:=Ei h;exact ⟨n,rfl,by omega,hk,by unfold kS; rw [hl]; omega⟩
      · exact Hf hr hn (by omega) h
theorem ID : ∀ m≤5,∀ n < 2 * 2 ^ m - 1,n + 2 ^ lv n≤2 * 2 ^ m - 1:=by decide +kernel
theorem GC {t : List al} (hr : bw t) (skip : List Int) {n : Nat} (ht : n < t.length) {x : Int} (h : x ∈ bG t n skip) : ∃ m : Nat,x = (m : Int)∧m < t.length∧(nd t m).kind≠0∧kS m n:=by
  obtain ⟨cL,lj⟩ : Fit (aU t)∧t.length = 2 * aU t - 1:=by
    rcases bT (t:=t) with h | h
    · exact absurd h hr.1
    · exact h
  have oW:=cL.le;unfold bG at h;rw [if_pos ⟨by omega,by omega,hr⟩,Int.toNat_natCast] at h;refine yz hr skip _ n rfl (by omega) ?_ x h;obtain ⟨m,hm,he⟩:=cL.pow;rw [lj,he];exact ID m hm n (by rw [← he]; omega)
def LV : Bool:=(List.range 6).all fun m=>(List.range (2 ^ m)).all fun leaf=>(List.range (aD leaf (2 ^ m)).length).all fun i=>(List.range (2 * 2 ^ m - 1)).all fun u=>!decide (kS u (cl (nodeAt leaf (2 ^ m) i))) || decide (u ∉ aD leaf (2 ^ m))
theorem Ej : LV = true:=by decide +kernel
theorem J3 {leaf l : Nat} (hl : Fit l) (h : leaf < l) {i : Nat} (hi : i < (aD leaf l).length) {u : Nat} (hu : u < 2 * l - 1) (hs : kS u (cl (nodeAt leaf l i))) : u ∉ aD leaf l:=by
  obtain ⟨m,hm,rfl⟩:=hl.pow;have k:=Ej;unfold LV at k;have k1:=List.all_eq_true.1 k m (List.mem_range.2 (by omega));have k2:=List.all_eq_true.1 k1 leaf (List.mem_range.2 h);have k3:=List.all_eq_true.1 k2 i (List.mem_range.2 hi);have k4:=List.all_eq_true.1 k3 u (List.mem_range.2 hu);simpa [hs] using k4
def Nt (leaf l own : Nat) : Int:=bZ (fun i=>decide (lo ((aD leaf l).getD i 0)≤own∧own≤hi ((aD leaf l).getD i 0))) (aD leaf l).length 0
end Go.AM
namespace Go.Proofs.YtbiefppedlodiaaGreatDoor
open Go Go.AM Go.Proofs Tryz
variable {Γ : Nat→List AV}
theorem zE (h : bB) (n : Int) (s : AS) : ai prog Γ 131 [.agg h.cells,.dc [.v (.int .i64 n)]] s (fun r s'=>r = .v (.bool (h.node == n))∧s' = s):=by
 refine aa func131 rfl ntmps131 results131 (by simp) ?_;obtain ⟨hn,hk⟩:=h;simp only [bB.cells];refine aY 2 (by decide) ?_;intro K hK;refine jM ?_;intro o1 h1;refine hK _ _ o1 _ rfl h1 ?_;clear hK K h1;refine jA ?_;exact jJ
theorem Ek (h : bB) (l : List Int) (hl : l.length≤2 ^ 61) (s : AS) : ai prog Γ 83 [.agg h.cells,.dc [aH l .any]] s (fun r s'=>r = .v (.bool (decide (h.node ∈ l)))∧s' = s):=by
 refine aa func83 rfl ntmps83 results83 (by simp) ?_;obtain ⟨hn,hk⟩:=h;have hc:=fun s=>ic (Γ:=Γ) l hn hl s;simp only [bB.cells];refine aY 2 (by decide) ?_;intro K hK;refine jM ?_;intro o1 h1;refine hK _ _ o1 _ rfl h1 ?_;clear hK K h1;refine jK (hc _) ?_;rintro s1 rfl;exact jJ
theorem El (hG : Γ 3 = eS.map nH) (x own : Int) (s : AS) : ai prog Γ 78 [.v (.int .i64 x),.dc [.v (.int .i64 own)]] s (fun r s'=>r = .v (.bool (fo x own))∧s' = s):=by
 refine aa func78 rfl ntmps78 results78 (by simp) ?_;have hc:=fun s=>l8 (Γ:=Γ) hG x own s;refine jA ?_;refine jK (hc _) ?_;rintro s1 rfl;exact jJ
theorem Cm (hG : Γ 3 = eS.map nH) (x own : Int) (s : AS) : ai prog Γ 72 [.v (.int .i64 x),.dc [.v (.int .i64 own)]] s (fun r s'=>r = .v (.bool (fo x own))∧s' = s):=by
 refine aa func72 rfl ntmps72 results72 (by simp) ?_;have hc:=fun s=>l8 (Γ:=Γ) hG x own s;refine jA ?_;refine jK (hc _) ?_;rintro s1 rfl;exact jJ
theorem Em (p : dM) (a i : Nat) (hi : a + i < p.steps.length) (hp : p.steps.length≤2 ^ 60) (s : AS) : ai prog Γ 80 [.v (.int .i64 i),.dc p.cells,.dc [.v (.int .i64 a)]] s (fun r s'=>r = .v (.int .u64 ((p.steps.getD (a + i) ⟨0,[]⟩).key : Nat))∧s' = s):=by
 refine aa func80 rfl ntmps80 results80 (by simp) ?_;obtain ⟨pk,pp,ps⟩:=p;simp only at hi hp ⊢;have dw:=ni (c:=cu.cells) (k:=2) (fun _=>rfl) hi;have BI : ps.getD (a + i) ⟨0,[]⟩ = ps[a + i]:=(by simp [List.getD,hi]);rw [BI];simp only [dM.cells];generalize hY : aQ cu.cells ps = Y at *
 generalize ps[a + i] = q at *
 obtain ⟨qk,qs⟩:=q;unfold cu.cells at dw;have e1 : dP .i64 (a : Int) (i : Int) = ((a + i : Nat) : Int):=(by rw [eE (by omega)]; rfl);have cz : (0 : Int)≤((a + i : Nat) : Int):=(by omega);have bI : ((a + i : Nat) : Int) < (ps.length : Int):=(by omega);refine jA ?_;refine jB (Ai @e1 (Ai @cz (Ai @bI @dw))) ?_;exact jJ
theorem Cn (t : List al) (ht : t.length≤2 ^ 60) (ups : List Nat) (hu : ups.length≤2 ^ 60) (a i : Nat) (hi : a + i < ups.length) (zr : ups.getD (a + i) 0 < t.length) (s : AS) : ai prog Γ 75 [.v (.int .i64 i),.dc [aZ t],.dc [aH (aP ups) .any],.dc [.v (.int .i64 a)]] s (fun r s'=>r = .v (.int .u64 ((nd t (ups.getD (a + i) 0)).key : Nat))∧s' = s):=by
 refine aa func75 rfl ntmps75 results75 (by simp) ?_;have dw:=dm zr;have hS : (List.take 1 (List.drop (a + i) ((aP ups).map aM)))[0]? = some (AV.v (.int .i64 (ups.getD (a + i) 0 : Nat))):=by
  simp [List.getElem?_take,aP,hi,aM]
 have hlen:=bo ups;unfold aZ aH;rw [hlen];generalize hX : aQ al.cells t = X at *
 generalize aP ups = U at *
 generalize hue : ups.getD (a + i) 0 = u at *
 generalize hN : nd t u = N at *
 obtain ⟨n1,n2,n3,n4,n5⟩:=N;unfold al.cells at dw;have e1 : dP .i64 (a : Int) (i : Int) = ((a + i : Nat) : Int):=(by rw [eE (by omega)]; rfl);have cz : (0 : Int)≤((a + i : Nat) : Int):=(by omega);have bI : ((a + i : Nat) : Int) < (ups.length : Int):=(by omega);have mz : (0 : Int)≤((u : Nat) : Int):=(by omega);have jc : ((u : Nat) : Int) < (t.length : Int):=(by omega);refine jA ?_;refine bn T.mixed [] (by kernel_rfl) ?_;intro K hK;refine jV (Ai @e1 (Ai @cz (Ai @bI (Ai @hS (Ai @mz (Ai @jc @dw)))))) hK ?_;clear hK K;exact jJ
def gV (d : List UInt8) (i n : Nat) : List UInt8:=Kdf.label d Eh [UInt8.ofNat i,UInt8.ofNat n] 32
theorem JS (d : List UInt8) (i n : Nat) : (gV d i n).length≤32:=by
 unfold gV Kdf.label;split
 ·rw [Kdf.gu]; decide
 ·exact Nat.zero_le _
theorem BH (dO : Γ 0 = dV Sha.H0) (gl : Γ 1 = Sha.K.map wV) (d : List UInt8) (hd : d.length≤2 ^ 36) (i n : Nat) (hi : i < 256) (hn : n < 256) (s : AS) : ai prog Γ 108 [aj d .any,.v (.int .i64 i),.v (.int .i64 n)] s (fun r s'=>r = aj (gV d i n) .any∧s' = s):=by
 refine aa func108 rfl ntmps108 results108 (by simp) ?_;have hc:=fun s=>jj (Γ:=Γ) dO gl d Eh [UInt8.ofNat i,UInt8.ofNat n] 32 hd (by decide) (by simp) (by decide) s;have yE : ∀ s,ai prog Γ 102 [aj d .any,.v (.string ⟨Eh.toArray⟩),.sl 1 2 [.v (.int .u8 (cB .u8 (i : Int))),.v (.int .u8 (cB .u8 (n : Int)))] .new,.v (.int .i64 32)] s (fun r s'=>r = .dX [aj (gV d i n) .any,.v (.bool (Kdf.fits Eh [UInt8.ofNat i,UInt8.ofNat n] 32))]∧s' = s):=by
  intro s;rw [← rN,← rN];exact ai.gz (fU.aB.cons (AV.aB.refl _) (fU.aB.cons (AV.aB.refl _) (fU.aB.cons AV.bQ (fU.aB.cons (AV.aB.refl _) fU.aB.nil)))) (hc s)
 clear hc;generalize gV d i n = y at *
 unfold aj Eh at yE;unfold aj;refine jA ?_;refine wS fun K hK=>?_;simp only [↓DN,Qa,Qb,Qc,Qd,Qe,Qf,Qg,Qh,reduceCtorEq,↓reduceIte,Na,Nb,Nc,Nk,Nf,Ng,Nh,Za,Zb,Zc,TT,List.replicate_succ,List.replicate_zero];refine ad (yE _) ?_;rintro r s1 ⟨rfl,rfl⟩;refine jR hK ?_;clear hK K;refine jA ?_;exact jJ
def lq (x : List UInt8) : Nat:=3 ^ lr x % PP
def dk (x : List UInt8) (ups : List Nat) : List bB:=(List.range ups.length).map fun i=>⟨(ups.getD i 0 : Nat),lr (b7 x i)⟩
def lZ (x : List UInt8) (n : Nat) (pub : Nat→Nat) : Bool:=(List.range n).all fun i=>decide (lq (b7 x i) = pub i)
def dp (x : List UInt8) (ups : List Nat) (pub : Nat→Nat) : List bB × List UInt8 × Bool :=
 if lZ x ups.length pub = true then (dk x ups,b7 x ups.length,true) else ([],[],false)
theorem fj (x : List UInt8) (ups : List Nat) : (dk x ups).length = ups.length:=by simp [dk]
theorem vf (x : List UInt8) (ups : List Nat) {i : Nat} (h : i < ups.length) : (dk x ups).take (i + 1) = (dk x ups).take i ++ [⟨(ups.getD i 0 : Nat),lr (b7 x i)⟩]:=by
 rw [List.take_succ_eq_append_getElem (by rw [fj]; exact h)];simp [dk]
theorem oY {x : List UInt8} {n : Nat} {pub : Nat→Nat} (h : ∀ j,j < n→lq (b7 x j) = pub j) : lZ x n pub = true:=by
 unfold lZ;rw [List.all_eq_true];intro i hi;rw [decide_eq_true (h i (List.mem_range.1 hi))]
theorem sY {x : List UInt8} {n : Nat} {pub : Nat→Nat} {i : Nat} (hi : i < n) (h : lq (b7 x i)≠pub i) : lZ x n pub = false:=by
 unfold lZ;rw [List.all_eq_false];exact ⟨i,List.mem_range.2 hi,by simpa using h⟩
theorem qo (dO : Γ 0 = dV Sha.H0) (gl : Γ 1 = Sha.K.map wV) (x : List UInt8) (hx : x.length≤2 ^ 36) (ups : List Nat) (hu : ups.length≤2 ^ 30) (k : FuncId) (hk : af prog k = true) (b6 : List AV) (pub : Nat→Nat)
  (hp : ∀ i,i < ups.length→∀ s,ai prog Γ k (.v (.int .i64 i) :: b6) s (fun r s'=>r = .v (.int .u64 (pub i : Nat))∧s' = s)) (s : AS) :
  ai prog Γ 74 [aj x .any,aH (aP ups) .any,.pI k b6] s (fun r s'=>r = .dX [ec (dp x ups pub).1,aj (dp x ups pub).2.1 .any,.v (.bool (dp x ups pub).2.2)]∧s' = s):=by
 refine aa func74 rfl ntmps74 results74 (by simp) ?_;obtain ⟨R,hR⟩ : ∃ R,R = dp x ups pub:=⟨_,rfl⟩;rw [← hR];have hS : ∀ i,i < ups.length→(List.take 1 (List.drop i ((aP ups).map aM)))[0]? = some (AV.v (.int .i64 (ups.getD i 0 : Nat))):=by
  intro i hi;simp [List.getElem?_take,aP,hi,aM]
 have hlen:=bo ups;obtain ⟨L,hL⟩ : ∃ L,L = dk x ups:=⟨_,rfl⟩;have Ri:=fun i (h : i < ups.length)=>vf x ups h;rw [← hL] at Ri;have hs : s.le s:=AS.le.refl _;have uA : ∀ a b : AV,mI 2 [a,b] = [a,b]:=fun _ _=>rfl;unfold aH aj;rw [hlen];generalize aP ups = U at *
 refine jA ?_;refine jA ?_;refine wK fun K hK=>?_;refine jA ?_;refine ag ?_;refine aC (fun E s2=>∃ (i : Nat) (y : List UInt8) (z : AV),i≤ups.length∧y = b7 x i∧(∀ j,j < i→lq (b7 x j) = pub j)∧E 15 = .v (.int .i64 i)∧E 14 = .v (.int .i64 ups.length)∧E 13 = .sl 1 ups.length (U.map aM) .any∧E 0 = .sl 1 y.length (y.map ah) .any∧E 2 = .pI k b6∧E 9 = z∧dz 2 s s2 z i (aQ bB.cells (L.take i))∧s.le s2)
  (fun E _=>match E 15 with | .v (.int _ i)=>ups.length - i.toNat | _=>0) ?_ ?_
 ·exact ⟨0,x,bO,Nat.zero_le _,rfl,fun j h=>absurd h (Nat.not_lt_zero _),rfl,rfl,rfl,rfl,rfl,rfl,dz.nil _ _ _,hs⟩
 ·rintro E1 s2 ⟨i,y,z,hi,hy,BI,g15,g14,g13,g0,g2,g9,hz,hle⟩ -
  have SH:=yy x hx i;rw [← hy] at SH;by_cases aX : i < ups.length
  ·have bI : ((i : Nat) : Int) < ((ups.length : Nat) : Int):=(by omega);have cz : (0 : Int)≤((i : Nat) : Int):=(by omega);have Nn:=hS i aX;have dN:=Ri i aX;rw [← hy] at dN;have c1:=fun s=>lY (Γ:=Γ) dO gl y SH s;have c2:=fun s=>eH (Γ:=Γ) (lr y) (BG y) s;have c3:=hp i aX;have c4:=fun s=>kg (Γ:=Γ) dO gl y ei SH (by decide) s;have Xi : Kdf.derive y ei = b7 x (i + 1):=(by rw [hy]; rfl);have OO : lq (b7 x i) = 3 ^ lr y % PP:=(by rw [← hy]; rfl);generalize W0 : lr y = ky at *
   generalize hpy : 3 ^ ky % PP = py at *
   generalize ups.getD i 0 = u at *
   generalize Kdf.derive y ei = y2 at *
   unfold aj ei at c4;unfold aj at c1;refine jB (Ai @g15 (Ai @g14 (decide_eq_true bI))) ?_;refine wK fun K2 aV=>?_;refine jE ?_;refine ab ?_;refine aV _ _ ?_;clear aV K2;refine wK fun K3 br=>?_;refine ag ?_;refine jB (Ai @g13 (Ai @g15 (Ai @bI (Ai @cz @Nn)))) ?_;refine jS @g0 fun K hK=>?_;refine ad (c1 _) ?_;rintro r s3 ⟨rfl,rfl⟩;refine jR hK ?_;clear hK K;refine wK fun K4 ee=>?_;refine jS (Ai @g15 @g2) fun K hK=>?_;refine ad (c2 _) ?_;rintro r s4 ⟨rfl,rfl⟩;refine jN (Ai @g15 @g2) ?_;refine ⟨hk,?_⟩;refine ad (c3 _) ?_;rintro r s5 ⟨rfl,rfl⟩;by_cases he : py = pub i
   ·have e1 : ((py : Int) != (pub i : Int)) = false:=(by rw [he]; simp);refine jV @e1 hK ?_;clear hK K;refine jF ?_;refine ab ?_;refine ee _ _ ?_;clear ee K4;refine wK fun K5 kt=>?_;have bX : ∀ (E : Env) (s6 : AS) (z' : AV),E 15 = .v (.int .i64 i)→E 14 = .v (.int .i64 ups.length)→E 13 = .sl 1 ups.length (U.map aM) .any→E 0 = .sl 1 y.length (y.map ah) .any→E 2 = .pI k b6→E 9 = z'→dz 2 s s6 z' (i + 1) (aQ bB.cells (L.take (i + 1)))→s.le s6→K5 E s6:=by
     intro E s6 z' f15 f14 f13 f0 f2 f9 fz BA;refine kt _ _ ?_;clear kt K5;refine jU @f0 fun K hK=>?_;refine ad (c4 _) ?_;rintro r s7 ⟨rfl,rfl⟩;refine jR hK ?_;clear hK K;refine br _ _ ?_;clear br K3;refine jD (Ai @f15 (bj i (by omega))) ?_;refine ⟨⟨i + 1,y2,z',aX,Xi,?_,rfl,f14,f13,rfl,f2,f9,fz,BA⟩,?_⟩
     ·intro j hj;by_cases e : j = i
      ·subst e;rw [OO,he]
      ·exact BI j (by omega)
     ·simp only [g15,aF,↓reduceIte];omega
    clear br;rcases hz with ⟨rfl,fX,vW⟩ | ⟨tk,ek,rfl,kT,oR⟩
    ·refine wE fun K hK=>?_;simp only [↓DN,Qa,Qb,Qc,Qd,Qe,Qf,Qg,Qh,reduceCtorEq,↓reduceIte,Na,Nb,Nc,Nk,Nf,Ng,Nh,Za,Zb,Zc,TT,g9,bO,uA];intro tk kT;refine hK _ _ (bX _ _ (.sl 2 1 [.v (.int .i64 (u : Nat)),.v (.int .u64 (ky : Nat))] (.own tk 0)) g15 g14 g13 g0 g2 rfl ?_ ?_)
     ·refine .inr ⟨tk,0,?_,by simp [AS.bC],bf hle kT⟩;rw [dN,gX,vW];subst fX;rfl
     ·exact AS.bq hle (bf hle kT) 0
    ·refine jU (Ai @g9 (Ai @kT @uA)) fun K hK=>?_;refine ⟨by omega,by omega,hK _ _ (bX _ _ (.sl 2 (i + 1) (aQ bB.cells (L.take i) ++ [.v (.int .i64 (u : Nat)),.v (.int .u64 (ky : Nat))]) (.own tk (ek + 1))) g15 g14 g13 g0 g2 rfl ?_ ?_)⟩
     ·exact .inr ⟨tk,ek + 1,by rw [dN,gX]; rfl,by simp [AS.bC],oR⟩
     ·exact AS.bq hle oR (ek + 1)
   ·have e1 : ((py : Int) != (pub i : Int)) = true:=by
     rw [bne_iff_ne];omega
    have hRn : R = ([],[],false):=by
     rw [hR];unfold dp;rw [sY aX (by rw [OO]; exact he)];rfl
    refine jV @e1 hK ?_;clear hK K;refine jE ?_;refine jA ?_;refine jI ?_;rw [hRn];exact ⟨_,_,AV.iK AV.aI AV.aI (AV.aB.refl _),hle,rfl,rfl⟩
  ·have bI : ¬ ((i : Nat) : Int) < ((ups.length : Nat) : Int):=(by omega);obtain rfl : i = ups.length:=(by omega);have hRg : R = (L,b7 x ups.length,true):=by
    rw [hR,hL];unfold dp;rw [oY BI];rfl
   refine jB (Ai @g15 (Ai @g14 (decide_eq_false bI))) ?_;refine wK fun K2 aV=>?_;refine jF ?_;refine aA ?_;simp only [az,ar,if_true];refine hK _ _ ?_;clear hK aV K2 K;refine jB (Ai @g9 @g0) ?_;refine jI ?_;rw [hRg];rw [List.take_of_length_le (by rw [hL,fj]; exact Nat.le_refl _)] at hz;have Rh : L.length = ups.length:=(by rw [hL,fj]);unfold ec;simp only;rw [Rh,← hy];exact ⟨_,_,AV.iK hz.aB (AV.aB.refl _) (AV.aB.refl _),hle,rfl,rfl⟩
theorem SI (P : bB→Bool) (h : bB) : bZ (fun i=>P ([h].getD i ⟨0,0⟩)) [h].length 0 = if P h = true then 0 else -1:=by
 cases hp : P h <;> simp [bZ,hp]
theorem yA (dO : Γ 0 = dV Sha.H0) (gl : Γ 1 = Sha.K.map wV) (S : cu) (tb : S.di.length≤2 ^ 40) (nodes : List Int) (hn : nodes.length≤2 ^ 40) (h : bB) (ctx : List UInt8) (BF : ctx.length≤2 ^ 30) (i0 : Nat) (fX : i0 < nodes.length)
  (he : nodes[i0] = h.node) (Mg : ∀ j,(hj : j < nodes.length)→j < i0→nodes[j]≠h.node) (YG : i0 < S.di.length) (iz : yx h.key (S.di[i0]).iW) (lj : (S.di[i0]).text.length≤2 ^ 30) (s : AS) :
  ai prog Γ 79 [.agg S.cells,aH nodes .any,ec [h],aj ctx .any] s (fun r s'=>r = .dX [aj (nz h.key (S.di[i0]).iW (S.di[i0]).text ei ctx) .any,.v (.int .i64 ((nA h.key (S.di[i0]).iW (S.di[i0]).text ei ctx : Nat) : Int))]∧s' = s):=by
 refine aa func79 rfl ntmps79 results79 (by simp) ?_;obtain ⟨qk,qs⟩:=S;simp only at tb YG iz lj ⊢;have pL : ∀ (n : Int) (s : AS),ai prog Γ 130 [.sl 2 [h].length (aQ bB.cells [h]) .any,.pI 131 [.dc [.v (.int .i64 n)]]] s (fun r s'=>r = .v (.int .i64 (if (h.node == n) = true then 0 else -1))∧s' = s):=fun n s=>by
  have:=qn (Γ:=Γ) [h] (by simp) .any 131 (by kernel_rfl) [.dc [.v (.int .i64 n)]] (fun x=>x.node == n) (fun x _ s=>zE x n s) s;rwa [SI (fun x=>x.node == n) h] at this
 have dw:=ni (c:=eb.cells) (k:=2) (fun _=>rfl) YG;have OP:=ni (c:=bB.cells) (k:=2) (l:=[h]) (i:=0) (fun _=>rfl) (by simp);have LW:=fun s=>LS (Γ:=Γ) dO gl h.key (qs[i0]).iW iz (qs[i0]).text ei ctx (by decide) BF lj s;simp only [cu.cells];generalize aQ eb.cells qs = Y at *
 generalize qs[i0] = q at *
 obtain ⟨qf,qt⟩:=q;simp only at LW ⊢;unfold eb.cells at dw;simp only at dw;have F9 : ∀ s,ai prog Γ 132 [.v (.int .u64 h.key),.agg [.v (.int .u64 qf),aj qt .any],.sl 1 4 [.v (.int .u8 112),.v (.int .u8 97),.v (.int .u8 116),.v (.int .u8 104)] .new,aj ctx .any] s
   (fun r s'=>r = .dX [aj (nz h.key qf qt ei ctx) .any,.v (.int .i64 ((nA h.key qf qt ei ctx : Nat) : Int))]∧s' = s):=fun s =>
  ai.gz (fU.aB.cons (AV.aB.refl _) (fU.aB.cons (AV.aB.refl _) (fU.aB.cons (AV.bQ (sp:=.new)) (fU.aB.cons (AV.aB.refl _) fU.aB.nil)))) (LW s)
 clear LW;generalize nz h.key qf qt ei ctx = RT at *
 generalize nA h.key qf qt ei ctx = RE at *
 obtain ⟨xq,my⟩:=h;simp only [ec,List.length_singleton,Nat.zero_mul,List.drop_zero,List.getElem_cons_zero] at pL OP F9 he Mg ⊢;generalize aQ bB.cells [⟨xq,my⟩] = X at *
 unfold bB.cells at OP;simp only at OP;unfold aH aj;unfold aj at F9 dw;have h01 : (0 : Int) < ((1 : Nat) : Int):=(by decide);refine aY 4 (by decide) ?_;intro K hK;refine jM ?_;intro o1 h1;refine hK _ _ o1 _ rfl h1 ?_;clear hK K h1;refine wK fun K hK=>?_;refine jA ?_;refine ag ?_;refine aC (fun E s2=>∃ i : Nat,i≤i0∧E 15 = .v (.int .i64 i)∧E 14 = .v (.int .i64 nodes.length)∧E 13 = .sl 1 nodes.length (nodes.map aM) .any∧E 2 = .sl 2 1 X .any∧E 3 = .sl 1 ctx.length (ctx.map ah) .any∧E 4 = .dc [.v (.int .u64 qk),.sl 2 qs.length Y .any]∧s2 = s)
  (fun E _=>match E 15 with | .v (.int _ i)=>nodes.length - i.toNat | _=>0) ?_ ?_
 ·exact ⟨0,Nat.zero_le _,rfl,rfl,rfl,rfl,rfl,rfl,rfl⟩
 ·rintro E1 s2 ⟨i,hi,g15,g14,g13,g2,g3,g4,rfl⟩ -
  have MF : i < nodes.length:=(by omega);have bI : ((i : Nat) : Int) < ((nodes.length : Nat) : Int):=(by omega);have cz : (0 : Int)≤((i : Nat) : Int):=(by omega);have hS : (List.take 1 (List.drop i (nodes.map aM)))[0]? = some (AV.v (.int .i64 nodes[i])):=by
   simp [List.getElem?_take,MF,aM]
  have hb:=Mg i MF;have hic:=fun s=>pL nodes[i] s;refine jB (Ai @g15 (Ai @g14 (decide_eq_true bI))) ?_;refine wK fun K2 aV=>?_;refine jE ?_;refine ab ?_;refine aV _ _ ?_;clear aV K2;refine wK fun K3 br=>?_;refine ag ?_;refine aY 11 (by decide) ?_;intro K4 ee;refine jN (Ai @g13 (Ai @g15 (Ai @bI (Ai @cz @hS)))) ?_;intro o2 q2;refine ee _ _ o2 _ rfl q2 ?_;clear ee K4 q2;refine jS @g2 fun K hK=>?_;refine ad (hic _) ?_;rintro r s3 ⟨rfl,rfl⟩;by_cases hii : i < i0
  ·have cW : (xq == nodes[i]) = false:=by
    rw [beq_eq_false_iff_ne];exact fun k=>hb hii k.symm
   rw [cW];simp only [Bool.false_eq_true,if_false];refine jR hK ?_;clear hK K;refine jA ?_;refine jF ?_;refine ab ?_;simp only [ar,az,if_true,if_false];refine br _ _ ?_;clear br K3;refine jD (Ai @g15 (bj i (by omega))) ?_;refine ⟨⟨i + 1,by omega,rfl,g14,g13,g2,g3,g4,rfl⟩,?_⟩;simp only [g15,aF,↓reduceIte];omega
  ·obtain rfl : i = i0:=(by omega);have hee : (xq == nodes[i]) = true:=by
    rw [he];simp
   rw [hee];simp only [if_true];have jc : ((i : Nat) : Int) < ((qs.length : Nat) : Int):=(by omega);refine jR hK ?_;clear hK K;refine jA ?_;refine jE ?_;refine bn T.mixed [13] (by kernel_rfl) ?_;intro K hK;simp only [↓DM,bY,DX,Nz,↓DN,Qa,Qb,Qc,Qd,Qe,Qf,Qg,Qh,reduceCtorEq,↓reduceIte,Na,Nb,Nc,Nk,Nf,Ng,Nh,Za,Zb,Zc,TT,g2,g3,g4,cz,jc,dw,OP,h01,List.replicate_succ,List.replicate_zero];refine ad (F9 _) ?_;rintro r s4 ⟨rfl,rfl⟩;refine jR hK ?_;clear hK K;exact jJ
def sx (t : List al) (leaf own : Int) : List Nat:=(aD leaf.toNat (aU t)).drop (Nt leaf.toNat (aU t) own.toNat).toNat
def za (t : List al) (ups : List Nat) (i : Nat) : Nat:=(nd t (ups.getD i 0)).key
def gq (t : List al) (leaf own : Int) (x : List UInt8) : List bB × List UInt8 × Int :=
 if gY t leaf≠0 then ([],[],gY t leaf) else if ¬ cF t own∨own = leaf then ([],[],43) else
 if (dp x (sx t leaf own) (za t (sx t leaf own))).2.2 = true∧x.length = 32 then ((dp x (sx t leaf own) (za t (sx t leaf own))).1,(dp x (sx t leaf own) (za t (sx t leaf own))).2.1,0) else ([],[],45)
theorem OQ : ∀ m≤5,∀ leaf < 2 ^ m,∀ own < 2 ^ m,bZ (fun i=>fo ((aP (aD leaf (2 ^ m))).getD i 0) (own : Nat)) (aD leaf (2 ^ m)).length 0 = Nt leaf (2 ^ m) own∧(own≠leaf→0≤Nt leaf (2 ^ m) own∧(Nt leaf (2 ^ m) own).toNat < (aD leaf (2 ^ m)).length):=by decide +kernel
theorem LX {leaf l own : Nat} (hl : Fit l) (h : leaf < l) (ho : own < l) (cW : own≠leaf) :
  ∃ a : Nat,a < (aD leaf l).length∧bZ (fun i=>fo ((aP (aD leaf l)).getD i 0) (own : Nat)) (aP (aD leaf l)).length 0 = (a : Int)∧Nt leaf l own = (a : Int):=by
 obtain ⟨m,hm,rfl⟩:=hl.pow;obtain ⟨h1,h2⟩:=OQ m hm leaf h own ho;obtain ⟨h3,h4⟩:=h2 cW;refine ⟨(Nt leaf (2 ^ m) own).toNat,h4,?_,by omega⟩;rw [bo,h1];omega
theorem Hg {leaf l : Nat} (hl : Fit l) (h : leaf < l) {i : Nat} (hi : i < (aD leaf l).length) : (aD leaf l).getD i 0 < 2 * l - 1:=by
 have:=Dv hl h _ (List.getElem_mem hi);simpa [List.getD,hi] using this.1
theorem rl (l : List Nat) (a : Nat) : (aP (l.drop a)).map aM = ((aP l).map aM).drop a:=by
 simp [aP,List.map_drop]
theorem zb (dO : Γ 0 = dV Sha.H0) (gl : Γ 1 = Sha.K.map wV) (hG : Γ 3 = eS.map nH) (t : List al) (ht : dS t) (leaf own : Int) (x : List UInt8) (hx : x.length≤2 ^ 36) (s : AS) :
  ai prog Γ 24 [aZ t,.v (.int .i64 leaf),.v (.int .i64 own),aj x .any] s (fun r s'=>r = .dX [ec (gq t leaf own x).1,aj (gq t leaf own x).2.1 .any,.v (.int .i64 (gq t leaf own x).2.2)]∧s' = s):=by
 refine aa func24 rfl ntmps24 results24 (by simp) ?_;have xy:=fun s=>oV (Γ:=Γ) hG t ht leaf s;have ir:=fun s=>ia (Γ:=Γ) t ht.1 own s;have c7:=fun s=>fi (Γ:=Γ) hG t ht s;obtain ⟨R,hR⟩ : ∃ R,R = gq t leaf own x:=⟨_,rfl⟩;rw [← hR];unfold gq at hR;have ef : ∀ e : Int,R = ([],[],e)→∀ (E : Env) (s5 : AS),s.le s5→E 8 = .v (.slice none 0 0)→E 9 = .v (.slice none 0 0)→E 10 = .v (.int .i64 e)→bt prog (#[ResultVar.tmp 8,ResultVar.tmp 9,ResultVar.tmp 10] : Array ResultVar).toList (fun r s'=>r = .dX [ec R.1,aj R.2.1 .any,.v (.int .i64 R.2.2)]∧s' = s) E s5:=by
  intro e X8 E s5 hle f8 f9 f10;rw [X8];simp only [bt,bD,cU,f8,f9,f10];exact ⟨_,_,AV.iK AV.aI AV.aI (AV.aB.refl _),hle,rfl,rfl⟩
 refine gP 4 6 (by decide) (by decide) (by decide) ?_;intro K hK;refine jM ?_;intro o1 q1 o2 q2;refine hK _ _ o1 o2 _ _ rfl rfl q1 (by rw [AS.gw]; exact q2) ?_;clear hK K q1 q2;unfold aZ at xy ir c7 ⊢;unfold aj;refine wK fun K hK=>?_;refine jK (xy _) ?_;rintro s1 rfl;by_cases he : gY t leaf = 0
 ·have e0 : (gY t leaf != 0) = false:=(by simp [he]);rw [if_neg (by rw [he]; simp)] at hR;refine jB @e0 ?_;refine jF ?_;refine ab ?_;refine hK _ _ ?_;clear hK K;obtain ⟨hr,hm⟩:=ku.1 he;obtain ⟨lf,rfl⟩:=Int.eq_ofNat_of_zero_le hm.1;obtain ⟨cL,lj⟩ : Fit (aU t)∧t.length = 2 * aU t - 1:=by
   rcases bT (t:=t) with h | h
   ·exact absurd h hr.1
   ·exact h
  have oW:=cL.le;have gE : lf < aU t:=by
   have:=hm.2.1;omega
  by_cases BL : cF t own
  ·rw [decide_eq_true BL] at ir;obtain ⟨ow,rfl⟩:=Int.eq_ofNat_of_zero_le BL.1;have how : ow < aU t:=by
    have:=BL.2.1;omega
   by_cases cW : ow = lf
   ·subst cW;rw [if_pos (.inr rfl)] at hR;refine wK fun K hK=>?_;refine jQ fun K hK=>?_;refine ad (ir _) ?_;rintro r s2 ⟨rfl,rfl⟩;have e1 : ((ow : Int) == (ow : Int)) = true:=(by simp);refine jV @e1 hK ?_;clear hK K;refine jE ?_;refine jA ?_;refine aW ?_;try simp only [az,ar]
    exact ef 43 hR _ _ (AS.le.refl _) rfl rfl rfl
   ·have e1 : ((ow : Int) == (lf : Int)) = false:=by
     rw [beq_eq_false_iff_ne];omega
    rw [if_neg (by rw [not_or,Classical.not_not]; exact ⟨BL,by omega⟩)] at hR;rw [if_pos hr] at c7;obtain ⟨a,ha,Lg,dw⟩:=LX cL gE how cW;have SJ : sx t (lf : Int) (ow : Int) = (aD lf (aU t)).drop a:=by
     unfold sx;rw [Int.toNat_natCast,Int.toNat_natCast,dw,Int.toNat_natCast]
    rw [SJ] at hR;have iC:=fun s=>gT (Γ:=Γ) hG lf (aU t) cL gE s;have vj:=fW cL gE;have pL:=fun s=>jx (Γ:=Γ) (aP (aD lf (aU t))) (by rw [bo]; omega) 72 (by kernel_rfl) [.dc [.v (.int .i64 ow)]] (fun x=>fo x ow) (fun x _ s=>Cm hG x ow s) s;rw [Lg] at pL;have zr:=fun i (h : i < (aD lf (aU t)).length)=>Hg cL gE h;generalize hP : aD lf (aU t) = P at *
    have BI : ∀ i,(P.drop a).getD i 0 = P.getD (a + i) 0:=by
     intro i;simp [List.getD,List.getElem?_drop]
    have eV:=fun s=>qo (Γ:=Γ) dO gl x hx (P.drop a) (by rw [List.length_drop]; omega) 75 (by kernel_rfl) [.dc [aZ t],.dc [aH (aP P) .any],.dc [.v (.int .i64 a)]] (za t (P.drop a)) (fun i hi s=>by
     rw [List.length_drop] at hi;unfold za;rw [BI];exact Cn t (by have:=ht.1; omega) P (by omega) a i (by omega) (by have:=zr (a + i) (by omega); omega) s) s
    have zM : (aP (P.drop a)).length = P.length - a:=(by rw [bo,List.length_drop]);have Au:=bo P;have II : List.drop a (List.take P.length ((aP P).map aM)) = (aP (P.drop a)).map aM:=by
     rw [rl,List.take_of_length_le (by rw [List.length_map,bo]; exact Nat.le_refl _)]
    obtain ⟨C,hC⟩ : ∃ C,C = dp x (P.drop a) (za t (P.drop a)):=⟨_,rfl⟩;rw [← hC] at eV hR;unfold aH aZ aj at eV;unfold aH at pL iC;rw [zM] at eV;rw [Au] at eV pL iC;generalize aP P = U at *
    generalize aP (P.drop a) = U2 at *
    obtain ⟨C1,C2,C3⟩:=C;simp only at eV hR;have eQ : ((a : Nat) : Int)≤((P.length : Nat) : Int):=(by omega);have mz : (0 : Int)≤((a : Nat) : Int):=(by omega);refine wK fun K hK=>?_;refine jQ fun K hK=>?_;refine ad (ir _) ?_;rintro r s2 ⟨rfl,rfl⟩;refine jV @e1 hK ?_;clear hK K;refine jF ?_;refine ab ?_;refine hK _ _ ?_;clear hK K;refine aY 12 (by decide) ?_;intro K hK;refine jM ?_;refine ad (c7 _) ?_;rintro r s3 ⟨rfl,rfl⟩;refine jM ?_;refine ad (iC _) ?_;rintro r s4 ⟨rfl,rfl⟩;refine jM ?_;intro o3 q3;refine hK _ _ o3 _ rfl q3 ?_;clear hK K q3;refine aY 13 (by decide) ?_;intro K hK;refine jM ?_;refine ad (pL _) ?_;rintro r s5 ⟨rfl,rfl⟩;refine jM ?_;intro o4 q4;refine hK _ _ o4 _ rfl q4 ?_;clear hK K q4;have gb:=Int.le_refl ((P.length : Nat) : Int);refine jS (Ai @eQ (Ai @mz (Ai @gb (Ai @Int.toNat_natCast (Ai @Nat.mul_one @II))))) fun K hK=>?_;refine ad (eV _) ?_;rintro r s6 ⟨rfl,rfl⟩;refine jR hK ?_;clear hK K;refine wK fun K hK=>?_;have LY : (¬ (C3 = true∧x.length = 32))→R = ([],[],45):=(fun h=>by rw [hR,if_neg h]);cases C3 with
    | false =>
     refine jA ?_;refine jE ?_;refine jA ?_;refine aW ?_;try simp only [az,ar]
     exact ef 45 (LY (fun h=>by cases h.1)) _ _ (AS.le.refl _) rfl rfl rfl
    | true =>
     by_cases nZ : x.length = 32
     ·have e2 : ((x.length : Int) != 32) = false:=(by rw [nZ]; rfl);rw [if_pos ⟨rfl,nZ⟩] at hR;refine jB @e2 ?_;refine jF ?_;refine ab ?_;refine hK _ _ ?_;clear hK K;refine jA ?_;refine jI ?_;rw [hR];exact jW ⟨rfl,rfl⟩
     ·have e2 : ((x.length : Int) != 32) = true:=by
       rw [bne_iff_ne];omega
      refine jB @e2 ?_;refine jE ?_;refine jA ?_;refine aW ?_;try simp only [az,ar]
      exact ef 45 (LY (fun h=>nZ h.2)) _ _ (AS.le.refl _) rfl rfl rfl
  ·rw [decide_eq_false BL] at ir;rw [if_pos (.inl BL)] at hR;refine wK fun K hK=>?_;refine jK (ir _) ?_;rintro s2 rfl;refine jE ?_;refine jA ?_;refine aW ?_;try simp only [az,ar]
   exact ef 43 hR _ _ (AS.le.refl _) rfl rfl rfl
 ·have e0 : (gY t leaf != 0) = true:=(by simp [he]);rw [if_pos he] at hR;refine jB @e0 ?_;refine jE ?_;refine jA ?_;refine aW ?_;try simp only [az,ar]
  exact ef _ hR _ _ (AS.le.refl _) rfl rfl rfl
theorem J2 {n : Nat} : nf n = true↔2≤n∧n≤2305843009213693949:=by
  unfold nf;rw [Bool.and_eq_true,decide_eq_true_iff,decide_eq_true_iff];omega
theorem ur (x : List UInt8) (hx : x.length≤2 ^ 36) (ups : List Nat) (hu : ups.length≤2 ^ 30) (pub : List Nat) (vj : pub.length = ups.length) (s : AS) :
  ai prog Γ 85 [.v (.string ⟨x.toArray⟩),aH (aP ups) .any,uV pub] s (fun r s'=>r = .dX [ec (dp x ups fun i=>pub.getD i 0).1,.v (.string ⟨(dp x ups fun i=>pub.getD i 0).2.1.toArray⟩),.v (.bool (dp x ups fun i=>pub.getD i 0).2.2)]∧s' = s):=by
 refine aa func85 rfl ntmps85 results85 (by simp) ?_;obtain ⟨R,hR⟩ : ∃ R,R = dp x ups fun i=>pub.getD i 0:=⟨_,rfl⟩;rw [← hR];have hS : ∀ i,i < ups.length→(List.take 1 (List.drop i ((aP ups).map aM)))[0]? = some (AV.v (.int .i64 (ups.getD i 0 : Nat))):=by
  intro i hi;simp [List.getElem?_take,aP,hi,aM]
 have hQ : ∀ i,i < ups.length→(List.take 1 (List.drop i (pub.map eo)))[0]? = some (AV.v (.int .u64 (pub.getD i 0 : Nat))):=by
  intro i hi;simp [List.getElem?_take,vj,hi,eo]
 have hlen:=bo ups;obtain ⟨L,hL⟩ : ∃ L,L = dk x ups:=⟨_,rfl⟩;have Ri:=fun i (h : i < ups.length)=>vf x ups h;rw [← hL] at Ri;have hs : s.le s:=AS.le.refl _;have uA : ∀ a b : AV,mI 2 [a,b] = [a,b]:=fun _ _=>rfl;unfold aH uV;rw [hlen,vj];generalize aP ups = U at *
 generalize pub.map eo = PC at *
 refine jA ?_;refine jA ?_;refine wK fun K hK=>?_;refine jA ?_;refine ag ?_;refine aC (fun E s2=>∃ (i : Nat) (y : List UInt8) (z : AV),i≤ups.length∧y = b7 x i∧(∀ j,j < i→lq (b7 x j) = pub.getD j 0)∧E 10 = .v (.int .i64 i)∧E 1 = .sl 1 ups.length (U.map aM) .any∧E 2 = .sl 1 ups.length PC .any∧E 0 = .v (.string ⟨y.toArray⟩)∧E 9 = z∧dz 2 s s2 z i (aQ bB.cells (L.take i))∧s.le s2)
  (fun E _=>match E 10 with | .v (.int _ i)=>ups.length - i.toNat | _=>0) ?_ ?_
 ·exact ⟨0,x,bO,Nat.zero_le _,rfl,fun j h=>absurd h (Nat.not_lt_zero _),rfl,rfl,rfl,rfl,rfl,dz.nil _ _ _,hs⟩
 ·rintro E1 s2 ⟨i,y,z,hi,hy,BI,g10,g1,g2,g0,g9,hz,hle⟩ -
  have SH:=yy x hx i;rw [← hy] at SH;refine wK fun K2 aV=>?_;by_cases aX : i < ups.length
  ·have bI : ((i : Nat) : Int) < ((ups.length : Nat) : Int):=(by omega);have cz : (0 : Int)≤((i : Nat) : Int):=(by omega);have Nn:=hS i aX;have tV:=hQ i aX;have dN:=Ri i aX;rw [← hy] at dN;have c1:=fun s=>uq (Γ:=Γ) y SH s;have c2:=fun s=>lJ (Γ:=Γ) (lr y) (BG y) s;have c4:=fun s=>nT (Γ:=Γ) y ei SH (by decide) s;have Xi : Kdf.derive y ei = b7 x (i + 1):=(by rw [hy]; rfl);have OO : lq (b7 x i) = 3 ^ lr y % PP:=(by rw [← hy]; rfl);generalize W0 : lr y = ky at *
   generalize hpy : 3 ^ ky % PP = py at *
   generalize ups.getD i 0 = u at *
   obtain ⟨pi,hpi⟩ : ∃ pi,pi = pub.getD i 0:=⟨_,rfl⟩;rw [← hpi] at tV;generalize Kdf.derive y ei = y2 at *
   unfold ei at c4;refine jB (Ai @g10 (Ai @g1 (decide_eq_true bI))) ?_;refine jE ?_;refine ab ?_;refine aV _ _ ?_;clear aV K2;refine wK fun K3 br=>?_;refine ag ?_;refine jS @g0 fun K hK=>?_;refine ad (c1 _) ?_;rintro r s3 ⟨rfl,rfl⟩;refine jR hK ?_;clear hK K;refine wK fun K4 ee=>?_;refine bn T.mixed [1] (by kernel_rfl) ?_;intro K hK;refine jN (Ai @g10 (Ai @g2 (Ai @bI (Ai @cz @tV)))) ?_;refine ad (c2 _) ?_;rintro r s4 ⟨rfl,rfl⟩;by_cases he : py = pi
   ·have e1 : ((py : Int) != (pi : Int)) = false:=(by rw [he]; simp);refine jV (Ai @e1 (Ai @g2 (Ai @g10 (Ai @bI (Ai @cz @tV))))) hK ?_;clear hK K;refine jF ?_;refine ab ?_;refine ee _ _ ?_;clear ee K4;refine wK fun K5 kt=>?_;have bX : ∀ (E : Env) (s6 : AS) (z' : AV),E 10 = .v (.int .i64 i)→E 1 = .sl 1 ups.length (U.map aM) .any→E 2 = .sl 1 ups.length PC .any→E 0 = .v (.string ⟨y.toArray⟩)→E 9 = z'→dz 2 s s6 z' (i + 1) (aQ bB.cells (L.take (i + 1)))→s.le s6→K5 E s6:=by
     intro E s6 z' f10 f1 f2 f0 f9 fz BA;refine kt _ _ ?_;clear kt K5;refine jU @f0 fun K hK=>?_;refine ad (c4 _) ?_;rintro r s7 ⟨rfl,rfl⟩;refine jR hK ?_;clear hK K;refine br _ _ ?_;clear br K3;refine jD (Ai @f10 (bj i (by omega))) ?_;refine ⟨⟨i + 1,y2,z',aX,Xi,?_,rfl,f1,f2,rfl,f9,fz,BA⟩,?_⟩
     ·intro j hj;by_cases e : j = i
      ·subst e;rw [OO,he,hpi]
      ·exact BI j (by omega)
     ·simp only [g10,aF,↓reduceIte];omega
    clear br;rcases hz with ⟨rfl,fX,vW⟩ | ⟨tk,ek,rfl,kT,oR⟩
    ·refine wE fun K hK=>?_;simp only [↓DN,Qa,Qb,Qc,Qd,Qe,Qf,Qg,Qh,reduceCtorEq,↓reduceIte,Na,Nb,Nc,Nk,Nf,Ng,Nh,Za,Zb,Zc,TT,g9,g1,g10,bI,cz,Nn,bO,uA];intro tk kT;refine hK _ _ (bX _ _ (.sl 2 1 [.v (.int .i64 (u : Nat)),.v (.int .u64 (ky : Nat))] (.own tk 0)) g10 g1 g2 g0 rfl ?_ ?_)
     ·refine .inr ⟨tk,0,?_,by simp [AS.bC],bf hle kT⟩;rw [dN,gX,vW];subst fX;rfl
     ·exact AS.bq hle (bf hle kT) 0
    ·refine jU (Ai @g9 (Ai @g1 (Ai @g10 (Ai @bI (Ai @cz (Ai @Nn (Ai @kT @uA))))))) fun K hK=>?_;refine ⟨by omega,by omega,hK _ _ (bX _ _ (.sl 2 (i + 1) (aQ bB.cells (L.take i) ++ [.v (.int .i64 (u : Nat)),.v (.int .u64 (ky : Nat))]) (.own tk (ek + 1))) g10 g1 g2 g0 rfl ?_ ?_)⟩
     ·exact .inr ⟨tk,ek + 1,by rw [dN,gX]; rfl,by simp [AS.bC],oR⟩
     ·exact AS.bq hle oR (ek + 1)
   ·have e1 : ((py : Int) != (pi : Int)) = true:=by
     rw [bne_iff_ne];omega
    have hRn : R = ([],[],false):=by
     rw [hR];unfold dp;rw [sY aX (by rw [OO,← hpi]; exact he)];rfl
    refine jV (Ai @e1 (Ai @g2 (Ai @g10 (Ai @bI (Ai @cz @tV))))) hK ?_;clear hK K;refine jE ?_;refine jA ?_;refine jI ?_;rw [hRn];exact ⟨_,_,AV.iK AV.aI (AV.aB.refl _) (AV.aB.refl _),hle,rfl,rfl⟩
  ·have bI : ¬ ((i : Nat) : Int) < ((ups.length : Nat) : Int):=(by omega);obtain rfl : i = ups.length:=(by omega);have hRg : R = (L,b7 x ups.length,true):=by
    rw [hR,hL];unfold dp;rw [oY BI];rfl
   refine jB (Ai @g10 (Ai @g1 (decide_eq_false bI))) ?_;refine jF ?_;refine aA ?_;simp only [az,ar,if_true];refine hK _ _ ?_;clear hK aV K2 K;refine jB (Ai @g9 @g0) ?_;refine jI ?_;rw [hRg];rw [List.take_of_length_le (by rw [hL,fj]; exact Nat.le_refl _)] at hz;have Rh : L.length = ups.length:=(by rw [hL,fj]);unfold ec;simp only;rw [Rh,← hy];exact ⟨_,_,AV.iK hz.aB (AV.aB.refl _) (AV.aB.refl _),hle,rfl,rfl⟩
theorem Co {x : List UInt8} {ups : List Nat} {f g : Nat→Nat} (h : ∀ i,i < ups.length→f i = g i) : dp x ups f = dp x ups g:=by
 have : lZ x ups.length f = lZ x ups.length g:=by
  unfold lZ;rw [Bool.eq_iff_iff,List.all_eq_true,List.all_eq_true];constructor <;> (intro q i hi; have:=q i hi; rw [h i (List.mem_range.1 hi)] at *; exact this)
 unfold dp;rw [this]
theorem tO (t : List al) (ht : dS t) (leaf own : Int) (x : List UInt8) (hx : x.length≤2 ^ 36) (s : AS) :
  ai prog Γ 30 [aZ t,.v (.int .i64 leaf),.v (.int .i64 own),.v (.string ⟨x.toArray⟩)] s (fun r s'=>r = .dX [ec (gq t leaf own x).1,.v (.string ⟨(gq t leaf own x).2.1.toArray⟩),.v (.int .i64 (gq t leaf own x).2.2)]∧s' = s):=by
 refine aa func30 rfl ntmps30 results30 (by simp) ?_;have xy:=fun s=>xN (Γ:=Γ) t ht leaf s;have ir:=fun s=>eJ (Γ:=Γ) t ht.1 own s;have c7:=fun s=>nQ (Γ:=Γ) t ht.1 s;obtain ⟨R,hR⟩ : ∃ R,R = gq t leaf own x:=⟨_,rfl⟩;rw [← hR];unfold gq at hR;have ef : ∀ e : Int,R = ([],[],e)→∀ (E : Env) (s5 : AS),s.le s5→E 8 = .v (.slice none 0 0)→E 9 = .v (.string ⟨#[]⟩)→E 10 = .v (.int .i64 e)→bt prog (#[ResultVar.tmp 8,ResultVar.tmp 9,ResultVar.tmp 10] : Array ResultVar).toList (fun r s'=>r = .dX [ec R.1,.v (.string ⟨R.2.1.toArray⟩),.v (.int .i64 R.2.2)]∧s' = s) E s5:=by
  intro e X8 E s5 hle f8 f9 f10;rw [X8];simp only [bt,bD,cU,f8,f9,f10];exact ⟨_,_,AV.iK AV.aI (AV.aB.refl _) (AV.aB.refl _),hle,rfl,rfl⟩
 unfold aZ at xy ir c7 ⊢;refine jA ?_;refine jK (xy _) ?_;rintro s1 rfl;refine wK fun K hK=>?_;by_cases he : gY t leaf = 0
 ·have e0 : (gY t leaf != 0) = false:=(by simp [he]);rw [if_neg (by rw [he]; simp)] at hR;refine jB @e0 ?_;refine jF ?_;refine ab ?_;refine hK _ _ ?_;clear hK K;obtain ⟨hr,hm⟩:=ku.1 he;obtain ⟨lf,rfl⟩:=Int.eq_ofNat_of_zero_le hm.1;obtain ⟨cL,lj⟩ : Fit (aU t)∧t.length = 2 * aU t - 1:=by
   rcases bT (t:=t) with h | h
   ·exact absurd h hr.1
   ·exact h
  have oW:=cL.le;have gE : lf < aU t:=by
   have:=hm.2.1;omega
  by_cases BL : cF t own
  ·rw [decide_eq_true BL] at ir;obtain ⟨ow,rfl⟩:=Int.eq_ofNat_of_zero_le BL.1;have how : ow < aU t:=by
    have:=BL.2.1;omega
   by_cases cW : ow = lf
   ·subst cW;rw [if_pos (.inr rfl)] at hR;refine wK fun K hK=>?_;refine jQ fun K hK=>?_;refine ad (ir _) ?_;rintro r s2 ⟨rfl,rfl⟩;have e1 : ((ow : Int) == (ow : Int)) = true:=(by simp);refine jV @e1 hK ?_;clear hK K;refine jE ?_;refine jA ?_;refine aW ?_;try simp only [az,ar]
    exact ef 43 hR _ _ (AS.le.refl _) rfl rfl rfl
   ·have e1 : ((ow : Int) == (lf : Int)) = false:=by
     rw [beq_eq_false_iff_ne];omega
    rw [if_neg (by rw [not_or,Classical.not_not]; exact ⟨BL,by omega⟩)] at hR;obtain ⟨a,ha,Lg,dw⟩:=LX cL gE how cW;have SJ : sx t (lf : Int) (ow : Int) = (aD lf (aU t)).drop a:=by
     unfold sx;rw [Int.toNat_natCast,Int.toNat_natCast,dw,Int.toNat_natCast]
    rw [SJ] at hR;have iC:=fun s=>vv (Γ:=Γ) lf (aU t) cL gE s;have vj:=fW cL gE;have zr:=fun i (h : i < (aD lf (aU t)).length)=>Hg cL gE h;have Hr:=fun x s=>tX (Γ:=Γ) x (ow : Int) s;have hS : ∀ i,i < (aD lf (aU t)).length→(List.take 1 (List.drop i ((aP (aD lf (aU t))).map aM)))[0]? = some (AV.v (.int .i64 ((aP (aD lf (aU t))).getD i 0))):=by
     intro i hi;simp [List.getElem?_take,aP,hi,aM]
    have hgN : ∀ i,(aP (aD lf (aU t))).getD i 0 = (((aD lf (aU t)).getD i 0 : Nat) : Int):=by
     intro i;simp only [aP,List.getD,List.getElem?_map];cases (aD lf (aU t))[i]? <;> rfl
    have hfs:=jd (fun i=>fo ((aP (aD lf (aU t))).getD i 0) (ow : Nat)) (aP (aD lf (aU t))).length 0;rw [Lg] at hfs;generalize hP : aD lf (aU t) = P at *
    obtain ⟨TC,hbn⟩ : fo ((aP P).getD a 0) (ow : Nat) = true∧∀ m,m < a→fo ((aP P).getD m 0) (ow : Nat) = false:=by
     rcases hfs with ⟨h,-⟩ | ⟨j,-,-,h1,h2,h3⟩
     ·omega
     ·obtain rfl : a = j:=(by omega);exact ⟨h1,fun m hm=>h3 m (Nat.zero_le _) hm⟩
    clear hfs;obtain ⟨pb,OO⟩ : ∃ pb,pb = (List.range (P.length - a)).map fun i=>(nd t (P.getD (a + i) 0)).key:=⟨_,rfl⟩;have YH : pb.length = P.length - a:=(by rw [OO]; simp);have xbV : ∀ i,i < P.length - a→(pb.take (i + 1)).map eo = (pb.take i).map eo ++ [.v (.int .u64 ((nd t (P.getD (a + i) 0)).key : Nat))]:=by
     intro i hi;rw [List.take_succ_eq_append_getElem (by omega),List.map_append];simp [OO,eo]
    have eV:=fun s=>ur (Γ:=Γ) x hx (P.drop a) (by rw [List.length_drop]; omega) pb (by rw [YH,List.length_drop]) s;rw [Co (g:=za t (P.drop a)) (fun i hi=>by
     rw [List.length_drop] at hi;unfold za;have fu : a + i < P.length:=(by omega);simp [OO,List.getD,List.getElem?_drop,hi,fu])] at eV
    have zM : (aP (P.drop a)).length = P.length - a:=(by rw [bo,List.length_drop]);have Au:=bo P;have II : List.drop a (List.take P.length ((aP P).map aM)) = (aP (P.drop a)).map aM:=by
     rw [rl,List.take_of_length_le (by rw [List.length_map,bo]; exact Nat.le_refl _)]
    obtain ⟨C,hC⟩ : ∃ C,C = dp x (P.drop a) (za t (P.drop a)):=⟨_,rfl⟩;rw [← hC] at eV hR;unfold aH uV at eV;unfold aH at iC;rw [zM,YH] at eV;rw [Au] at iC;have xq:=fun i (h : i < P.length)=>dm (t:=t) (i:=P.getD i 0) (by have:=zr i h; omega);have hSn : ∀ i,i < P.length→(List.take 1 (List.drop i ((aP P).map aM)))[0]? = some (AV.v (.int .i64 (P.getD i 0 : Nat))):=(fun i hi=>by rw [hS i hi,hgN]);generalize Zi : aQ al.cells t = X at *
    generalize hU : aP P = U at *
    generalize aP (P.drop a) = U2 at *
    obtain ⟨C1,C2,C3⟩:=C;simp only at eV hR;have eQ : ((a : Nat) : Int)≤((P.length : Nat) : Int):=(by omega);have mz : (0 : Int)≤((a : Nat) : Int):=(by omega);have gb:=Int.le_refl ((P.length : Nat) : Int);refine wK fun K hK=>?_;refine jQ fun K hK=>?_;refine ad (ir _) ?_;rintro r s2 ⟨rfl,rfl⟩;refine jV @e1 hK ?_;clear hK K;refine jF ?_;refine ab ?_;refine hK _ _ ?_;clear hK K;refine jQ fun K hK=>?_;refine ad (c7 _) ?_;rintro r s3 ⟨rfl,rfl⟩;refine jM ?_;refine ad (iC _) ?_;rintro r s4 ⟨rfl,rfl⟩;refine jR hK ?_;clear hK K;refine jA ?_;refine wK fun K hK=>?_;refine ag ?_;refine aC (fun E s5=>∃ j : Nat,j≤a∧E 13 = .v (.int .i64 j)∧E 12 = .sl 1 P.length (U.map aM) .any∧E 0 = .sl 5 t.length X .any∧E 2 = .v (.int .i64 ow)∧E 3 = .v (.string ⟨x.toArray⟩)∧s5 = s4)
     (fun E _=>match E 13 with | .v (.int _ i)=>a + 1 - i.toNat | _=>0) ?_ ?_
    ·exact ⟨0,Nat.zero_le _,rfl,rfl,rfl,rfl,rfl,rfl⟩
    ·rintro E1 s5 ⟨j,hj,g13,g12,g0,g2,g3,rfl⟩ -
     have CI : j < P.length:=(by omega);have bI : ((j : Nat) : Int) < ((P.length : Nat) : Int):=(by omega);have cz : (0 : Int)≤((j : Nat) : Int):=(by omega);have hSj:=hS j CI;refine wK fun K2 aV=>?_;refine jS (Ai @g13 (Ai @g12 (Ai @bI (Ai @cz (Ai @hSj @g2))))) fun K hK=>?_;refine ad (Hr _ _) ?_;rintro r s6 ⟨rfl,rfl⟩;by_cases hja : j < a
     ·rw [hbn j hja];refine jR hK ?_;clear hK K;refine jE ?_;refine ab ?_;refine aV _ _ ?_;clear aV K2;refine ag ?_;refine jD (Ai @g13 (bj j (by omega))) ?_;refine ⟨⟨j + 1,by omega,rfl,g12,g0,g2,g3,rfl⟩,?_⟩;simp only [g13,aF,↓reduceIte];omega
     ·obtain rfl : j = a:=(by omega);rw [TC];refine jR hK ?_;clear hK K;refine jF ?_;refine aA ?_;simp only [az,ar,if_true];refine hK _ _ ?_;clear hK aV K2 K;have LY : (¬ (C3 = true∧x.length = 32))→R = ([],[],45):=(fun h=>by rw [hR,if_neg h]);have hs6 : s6.le s6:=AS.le.refl _;refine jA ?_;refine wK fun K hK=>?_;refine jB @g13 ?_;refine ag ?_;refine aC (fun E s8=>∃ (i : Nat) (z : AV),j + i≤P.length∧E 15 = .v (.int .i64 (j + i : Nat))∧E 14 = z∧E 13 = .v (.int .i64 j)∧E 12 = .sl 1 P.length (U.map aM) .any∧E 0 = .sl 5 t.length X .any∧E 3 = .v (.string ⟨x.toArray⟩)∧dz 1 s6 s8 z i ((pb.take i).map eo)∧s6.le s8)
       (fun E _=>match E 15 with | .v (.int _ i)=>P.length - i.toNat | _=>0) ?_ ?_
      ·exact ⟨0,bO,by omega,rfl,rfl,g13,g12,g0,g3,dz.nil _ _ _,hs6⟩
      ·clear g13 g12 g0 g2 g3;rintro E2 s8 ⟨i,z,hi,g15,g14,g13,g12,g0,g3,hz,hle⟩ -
       refine wK fun K2 aV=>?_;by_cases aX : j + i < P.length
       ·have jc : ((j + i : Nat) : Int) < ((P.length : Nat) : Int):=(by omega);have Oo : (0 : Int)≤((j + i : Nat) : Int):=(by omega);have Nn:=hSn (j + i) aX;have NQ:=xq (j + i) aX;have dN:=xbV i (by omega);have xhE:=zr (j + i) aX;generalize P.getD (j + i) 0 = u at *
        generalize nd t u = N at *
        obtain ⟨n1,n2,n3,n4,n5⟩:=N;unfold al.cells at NQ;simp only at dN;have yQ : ((u : Nat) : Int) < ((t.length : Nat) : Int):=(by omega);have Oq : (0 : Int)≤((u : Nat) : Int):=(by omega);refine jB (Ai @g15 (Ai @g12 (decide_eq_true jc))) ?_;refine jE ?_;refine ab ?_;refine aV _ _ ?_;clear aV K2;refine wK fun K3 br=>?_;refine ag ?_;have bX : ∀ (E : Env) (s7 : AS) (z' : AV),E 15 = .v (.int .i64 (j + i : Nat))→E 14 = z'→E 13 = .v (.int .i64 j)→E 12 = .sl 1 P.length (U.map aM) .any→E 0 = .sl 5 t.length X .any→E 3 = .v (.string ⟨x.toArray⟩)→dz 1 s6 s7 z' (i + 1) ((pb.take (i + 1)).map eo)→s6.le s7→K3 E s7:=by
         intro E s7 z' f15 f14 f13 f12 f0 f3 fz BA;refine br _ _ ?_;clear br K3;refine jD (Ai @f15 (bj (j + i) (by omega))) ?_;refine ⟨⟨i + 1,z',by omega,(by rw [← Nat.add_assoc]; exact rfl),f14,f13,f12,f0,f3,fz,BA⟩,?_⟩;simp only [g15,aF,↓reduceIte];omega
        clear br;rcases hz with ⟨rfl,fX,vW⟩ | ⟨tk,ek,rfl,kT,oR⟩
        ·refine wE fun K hK=>?_;simp only [↓DN,Qa,Qb,Qc,Qd,Qe,Qf,Qg,Qh,reduceCtorEq,↓reduceIte,Na,Nb,Nc,Nk,Nf,Ng,Nh,Za,Zb,Zc,TT,g14,g0,g12,g15,jc,Oo,Nn,yQ,Oq,NQ,bO,List.replicate_succ];intro tk kT;refine hK _ _ (bX _ _ (.sl 1 1 [.v (.int .u64 n3)] (.own tk 0)) g15 rfl g13 g12 g0 g3 ?_ ?_)
         ·refine .inr ⟨tk,0,?_,by simp [AS.bC],bf hle kT⟩;rw [dN,vW];subst fX;rfl
         ·exact AS.bq hle (bf hle kT) 0
        ·refine wE fun K hK=>?_;simp only [↓DN,Qa,Qb,Qc,Qd,Qe,Qf,Qg,Qh,reduceCtorEq,↓reduceIte,Na,Nb,Nc,Nk,Nf,Ng,Nh,Za,Zb,Zc,TT,g14,g0,g12,g15,jc,Oo,Nn,yQ,Oq,NQ,kT,List.replicate_succ];refine ⟨by omega,by omega,hK _ _ (bX _ _ (.sl 1 (i + 1) ((pb.take i).map eo ++ [.v (.int .u64 n3)]) (.own tk (ek + 1))) g15 rfl g13 g12 g0 g3 ?_ ?_)⟩
         ·exact .inr ⟨tk,ek + 1,by rw [dN],by simp [AS.bC],oR⟩
         ·exact AS.bq hle oR (ek + 1)
       ·have jc : ¬ ((j + i : Nat) : Int) < ((P.length : Nat) : Int):=(by omega);obtain rfl : i = P.length - j:=(by omega);rw [List.take_of_length_le (by omega)] at hz;have xbW:=fun s=>ai.gz (.cons (.refl _) (.cons (.refl _) (.cons hz.aB .nil))) (eV s);refine jB (Ai @g15 (Ai @g12 (decide_eq_false jc))) ?_;refine jF ?_;refine aA ?_;simp only [az,ar,if_true,if_false,Nc];refine hK _ _ ?_;clear hK aV K2 K;refine jS (Ai @g3 (Ai @g12 (Ai @g13 (Ai @g14 (Ai @eQ (Ai @mz (Ai @gb (Ai @Int.toNat_natCast (Ai @Nat.mul_one @II))))))))) fun K hK=>?_;refine ad (xbW _) ?_;rintro r s7 ⟨rfl,rfl⟩;refine jR hK ?_;clear hK K;refine wK fun K hK=>?_;cases C3 with
        | false =>
         refine jA ?_;refine jE ?_;refine jA ?_;refine aW ?_;try simp only [az,ar]
         exact ef 45 (LY (fun h=>by cases h.1)) _ _ hle rfl rfl rfl
        | true =>
         by_cases nZ : x.length = 32
         ·have e2 : ((x.length : Int) != 32) = false:=(by rw [nZ]; rfl);rw [if_pos ⟨rfl,nZ⟩] at hR;refine jB (Ai @g3 @e2) ?_;refine jF ?_;refine ab ?_;refine hK _ _ ?_;clear hK K;refine jA ?_;refine jI ?_;rw [hR];exact ⟨_,_,AV.aB.refl _,hle,rfl,rfl⟩
         ·have e2 : ((x.length : Int) != 32) = true:=by
           rw [bne_iff_ne];omega
          refine jB (Ai @g3 @e2) ?_;refine jE ?_;refine jA ?_;refine aW ?_;try simp only [az,ar]
          exact ef 45 (LY (fun h=>nZ h.2)) _ _ hle rfl rfl rfl
  ·rw [decide_eq_false BL] at ir;rw [if_pos (.inl BL)] at hR;refine wK fun K hK=>?_;refine jK (ir _) ?_;rintro s2 rfl;refine jE ?_;refine jA ?_;refine aW ?_;try simp only [az,ar]
   exact ef 43 hR _ _ (AS.le.refl _) rfl rfl rfl
 ·have e0 : (gY t leaf != 0) = true:=(by simp [he]);rw [if_pos he] at hR;refine jB @e0 ?_;refine jE ?_;refine jA ?_;refine aW ?_;try simp only [az,ar]
  exact ef _ hR _ _ (AS.le.refl _) rfl rfl rfl
theorem OR (l : List bB) : (aQ bB.cells l).all AV.one = true:=by
 rw [List.all_eq_true];intro c hc;simp only [aQ,List.mem_flatten,List.mem_map] at hc;obtain ⟨_,⟨n,-,rfl⟩,hc⟩:=hc;simp only [bB.cells,List.mem_cons,List.not_mem_nil,or_false] at hc;rcases hc with rfl | rfl <;> rfl
theorem BM (dO : Γ 0 = dV Sha.H0) (gl : Γ 1 = Sha.K.map wV) (hG : Γ 3 = eS.map nH) (t : List al) (ht : dS t) (JY : t.length≤2 ^ 30) (hw : ∀ n ∈ t,mA n) (hr : bw t) (lf : Nat) (hm : cF t lf)
  (p : dM) (hp : p.steps.length = (aD lf (aU t)).length) (ow : Nat) (BL : cF t ow) (cW : ow≠lf) (h : bB) (ctx : List UInt8) (BF : ctx.length≤2 ^ 30) (fresh : List Int) (hf : fresh.length≤2 ^ 40) (hnf : (ow : Int) ∉ fresh) (YI : (oX t lf p fresh).2 = 0)
  (a : Nat) (ha : Nt lf (aU t) ow = (a : Int)) (mb : a < p.steps.length) (i0 : Nat) (fX : i0 < (bG t (cl (nodeAt lf (aU t) a) : Nat) fresh).length) (he : (bG t (cl (nodeAt lf (aU t) a) : Nat) fresh)[i0] = h.node)
  (Mg : ∀ j,(hj : j < (bG t (cl (nodeAt lf (aU t) a) : Nat) fresh).length)→j < i0→(bG t (cl (nodeAt lf (aU t) a) : Nat) fresh)[j]≠h.node) (YG : i0 < (p.steps[a]).di.length) (tb : (p.steps[a]).di.length≤2 ^ 40) (iz : yx h.key ((p.steps[a]).di[i0]).iW)
  (lj : ((p.steps[a]).di[i0]).text.length≤2 ^ 30) (YJ : h.node ∉ aP (aD lf (aU t))) (x : List UInt8) (hx : nz h.key ((p.steps[a]).di[i0]).iW ((p.steps[a]).di[i0]).text ei ctx = x) (hE : nA h.key ((p.steps[a]).di[i0]).iW ((p.steps[a]).di[i0]).text ei ctx = 0)
  (xbX : x.length = 32) (IG : lZ x ((aD lf (aU t)).drop a).length (fun i=>(p.steps.getD (a + i) ⟨0,[]⟩).key) = true) (s : AS) :
  ai prog Γ 27 [aZ t,.v (.int .i64 lf),.agg p.cells,.v (.int .i64 ow),ec [h],aj ctx .any,aH fresh .any] s
   (fun r s'=>r = .dX [ec (h :: dk x ((aD lf (aU t)).drop a)),aj (b7 x ((aD lf (aU t)).length - a)) .any,.v (.int .i64 0)]∧s' = s):=by
 refine aa func27 rfl ntmps27 results27 (by simp) ?_;obtain ⟨cL,YC⟩ : Fit (aU t)∧t.length = 2 * aU t - 1:=by
  rcases bT (t:=t) with h | h
  ·exact absurd h hr.1
  ·exact h
 have oW:=cL.le;have gE : lf < aU t:=by
  have:=hm.2.1;omega
 have how : ow < aU t:=by
  have:=BL.2.1;omega
 have vj:=fW cL gE;have LZ:=fun s=>zy (Γ:=Γ) dO gl hG t ht JY hw lf p (by omega) fresh hf s;rw [YI] at LZ;have ir:=fun s=>ia (Γ:=Γ) t ht.1 ow s;rw [decide_eq_true BL] at ir;have On:=fun s=>ic (Γ:=Γ) fresh (ow : Nat) (by omega) s;rw [decide_eq_false hnf] at On;have c7:=fun s=>fi (Γ:=Γ) hG t ht s;rw [if_pos hr] at c7;have iC:=fun s=>gT (Γ:=Γ) hG lf (aU t) cL gE s;have EK:=fun s=>hJ (Γ:=Γ) hG lf (aU t) cL gE s;have fL:=fun s=>iP (Γ:=Γ) hG t ht (cl (nodeAt lf (aU t) a) : Nat) fresh (by omega) s;obtain ⟨a',-,Lg,iu⟩:=LX cL gE how cW;obtain rfl : a' = a:=(by omega);have pL:=fun s=>jx (Γ:=Γ) (aP (aD lf (aU t))) (by rw [bo]; omega) 78 (by kernel_rfl) [.dc [.v (.int .i64 ow)]] (fun x=>fo x ow) (fun x _ s=>El hG x ow s) s;rw [Lg] at pL;have Qr:=mw hr fresh;have PH : (bG t (cl (nodeAt lf (aU t) a') : Nat) fresh).length≤2 ^ 40:=by
  unfold bG;split
  ·have h1:=Qr (lv (cl (nodeAt lf (aU t) a') : Int).toNat) (cl (nodeAt lf (aU t) a') : Int).toNat;have h2:=nG (cl (nodeAt lf (aU t) a') : Int).toNat;have h3:=Nat.pow_le_pow_right (show 0 < 2 by decide) h2;omega
  ·exact Nat.zero_le _
 have gC:=fun s=>yA (Γ:=Γ) dO gl p.steps[a'] tb (bG t (cl (nodeAt lf (aU t) a') : Nat) fresh) PH h ctx BF i0 fX he Mg YG iz lj s;rw [hx,hE] at gC;have hps : p.steps.length = (aD lf (aU t)).length:=hp;have eV:=fun s=>qo (Γ:=Γ) dO gl x (by omega) ((aD lf (aU t)).drop a') (by rw [List.length_drop]; omega) 80 (by kernel_rfl) [.dc p.cells,.dc [.v (.int .i64 a')]] (fun i=>(p.steps.getD (a' + i) ⟨0,[]⟩).key) (fun i hi s=>by
  rw [List.length_drop] at hi;exact Em p a' i (by omega) (by omega) s) s
 have hct : dp x ((aD lf (aU t)).drop a') (fun i=>(p.steps.getD (a' + i) ⟨0,[]⟩).key) = (dk x ((aD lf (aU t)).drop a'),b7 x ((aD lf (aU t)).length - a'),true):=by
  unfold dp;rw [if_pos IG,List.length_drop]
 rw [hct] at eV;simp only at eV;have uk:=fun s=>vM (Γ:=Γ) [h] (by simp) (by simp) s;have Qs:=fun tk s=>zD (Γ:=Γ) [h] (by simp) (.own tk 0) 83 (by kernel_rfl) [.dc [aH (aP (aD lf (aU t))) .any]] (fun y=>decide (y.node ∈ aP (aD lf (aU t)))) (fun y _ s=>Ek y _ (by rw [bo]; omega) s)
  (fun y hy=>by rw [List.mem_singleton.1 hy]; exact decide_eq_false YJ) s
 have Rh:=fj x ((aD lf (aU t)).drop a');rw [List.length_drop] at Rh;have vW : (dk x ((aD lf (aU t)).drop a')).length≠0:=(by omega);have ln:=OR (dk x ((aD lf (aU t)).drop a'));have Qt : ec (h :: dk x ((aD lf (aU t)).drop a')) = .sl 2 (1 + (dk x ((aD lf (aU t)).drop a')).length) (aQ bB.cells [h] ++ aQ bB.cells (dk x ((aD lf (aU t)).drop a'))) .any:=by
  rw [← gX];unfold ec;rw [List.length_cons,Nat.add_comm,List.singleton_append]
 have zM : (aP ((aD lf (aU t)).drop a')).length = (aD lf (aU t)).length - a':=(by rw [bo,List.length_drop]);have Au:=bo (aD lf (aU t));have II : List.drop a' (List.take (aD lf (aU t)).length ((aP (aD lf (aU t))).map aM)) = (aP ((aD lf (aU t)).drop a')).map aM:=by
  rw [rl,List.take_of_length_le (by rw [List.length_map,bo]; exact Nat.le_refl _)]
 have Fp : (aP (cC lf (aU t))).length = (aD lf (aU t)).length:=(by simp [bo,cC]);have Rk : (List.take 1 (List.drop a' ((aP (cC lf (aU t))).map aM)))[0]? = some (AV.v (.int .i64 (cl (nodeAt lf (aU t) a') : Nat))):=by
  have hi : a' < (aD lf (aU t)).length:=(by omega);simp [List.getElem?_take,aP,cC,hi,aM]
 have iG:=ni (c:=cu.cells) (k:=2) (fun _=>rfl) mb;rw [Qt];obtain ⟨pk,pp,ps⟩:=p;simp only [dM.cells] at *
 clear hct IG Qr PH hE hx iz lj YG tb Mg he fX Lg iu ha BL hm YI YJ Qt hw;generalize hY : aQ cu.cells ps = Y at *
 generalize ps[a'] = q at *
 obtain ⟨qk,qs⟩:=q;unfold cu.cells at gC iG;simp only at gC iG;generalize aP (cC lf (aU t)) = SD at *
 unfold aZ aH at *
 unfold ec aj at *
 rw [zM] at eV;rw [Au] at pL iC Qs;generalize cl (nodeAt lf (aU t) a') = sd at *
 generalize bG t (sd : Nat) fresh = RT at *
 generalize b7 x ((aD lf (aU t)).length - a') = y at *
 generalize dk x ((aD lf (aU t)).drop a') = CL at *
 generalize aP ((aD lf (aU t)).drop a') = U2 at *
 generalize aD lf (aU t) = P at *
 generalize aP P = U at *
 have eQ : ((a' : Nat) : Int)≤((P.length : Nat) : Int):=(by omega);have mz : (0 : Int)≤((a' : Nat) : Int):=(by omega);have gb:=Int.le_refl ((P.length : Nat) : Int);have xbY : ((a' : Nat) : Int) < ((ps.length : Nat) : Int):=(by omega);have jc : ((a' : Nat) : Int) < ((SD.length : Nat) : Int):=(by omega);have e1 : ((ow : Int) == (lf : Int)) = false:=by
  rw [beq_eq_false_iff_ne];omega
 have e2 : ((x.length : Int) != 32) = false:=(by rw [xbX]; rfl);have PJ : ((0 : Int) != 0) = false:=rfl;have e01 : (((0 : Nat) : Int) != 0) = false:=rfl;refine gP 9 10 (by decide) (by decide) (by decide) ?_;intro K hK;refine jM ?_;intro o1 q1 o2 q2;refine hK _ _ o1 o2 _ _ rfl rfl q1 (by rw [AS.gw]; exact q2) ?_;clear hK K q1 q2;refine wK fun K hK=>?_;refine jK (LZ _) ?_;rintro s1 rfl;refine jB @PJ ?_;refine jF ?_;refine ab ?_;refine hK _ _ ?_;clear hK K;refine wK fun K hK=>?_;refine jQ fun K hK=>?_;refine ad (ir _) ?_;rintro r s2 ⟨rfl,rfl⟩;refine jN @e1 ?_;refine ad (On _) ?_;rintro r s3 ⟨rfl,rfl⟩;refine jR hK ?_;clear hK K;refine jF ?_;refine ab ?_;refine hK _ _ ?_;clear hK K;refine jK (c7 _) ?_;rintro s4 rfl;refine aY 20 (by decide) ?_;intro K hK;refine jM ?_;refine ad (iC _) ?_;rintro r s5 ⟨rfl,rfl⟩;refine jM ?_;refine ad (EK _) ?_;rintro r s6 ⟨rfl,rfl⟩;refine jM ?_;intro o3 q3;refine hK _ _ o3 _ rfl q3 ?_;clear hK K q3;refine aY 22 (by decide) ?_;intro K hK;refine jM ?_;refine ad (pL _) ?_;rintro r s7 ⟨rfl,rfl⟩;refine jM ?_;intro o4 q4;refine hK _ _ o4 _ rfl q4 ?_;clear hK K q4;refine bn T.mixed [11,14] (by kernel_rfl) ?_;intro K hK;refine jN (Ai @mz (Ai @xbY (Ai @iG (Ai @jc @Rk)))) ?_;refine ad (fL _) ?_;rintro r s8 ⟨rfl,rfl⟩;refine jM ?_;refine ad (gC _) ?_;rintro r s9 ⟨rfl,rfl⟩;refine jR hK ?_;clear hK K;refine wK fun K hK=>?_;refine jB (Ai @e01 @PJ) ?_;refine jF ?_;refine ab ?_;refine hK _ _ ?_;clear hK K;refine jS (Ai @eQ (Ai @mz (Ai @gb (Ai @Int.toNat_natCast (Ai @Nat.mul_one @II))))) fun K hK=>?_;refine ad (eV _) ?_;rintro r PM ⟨rfl,rfl⟩;refine jR hK ?_;clear hK K;refine wK fun K hK=>?_;refine jB @e2 ?_;refine jF ?_;refine ab ?_;refine hK _ _ ?_;clear hK K;refine jQ fun K hK=>?_;refine ad (uk _) ?_;rintro r PN ⟨tk,rfl,dN,rfl⟩;refine jM ?_;refine ad (Qs tk _) ?_;rintro r s12 ⟨rfl,rfl⟩;refine jR hK ?_;clear hK K;refine jS (Ai @vW @ln) fun K hK=>?_;refine ⟨by omega,by omega,hK _ _ ?_⟩;clear hK K;refine jI ?_;exact ⟨_,_,AV.iK AV.bQ (AV.aB.refl _) (AV.aB.refl _),AS.bq (AS.bq (AS.le.refl _) dN 0) dN 1,rfl,rfl⟩
end Go.Proofs.YtbiefppedlodiaaGreatDoor
