/- Contracts of functions, each walked once; each theorem states its conditions. -/
import Derived.Test.YtbiefppedlodiaaGreatDoorAMp6
import Derived.Test.YtbiefppedlodiaaGreatDoorW1
import Derived.Test.YtbiefppedlodiaaGreatDoorW6
import Derived.Test.YtbiefppedlodiaaGreatDoorW2
set_option linter.unusedSimpArgs false
set_option linter.unusedVariables false
open Nat renaming reduceLT → Na, reduceLeDiff → Nb, reduceEqDiff → Nc, reduceAdd → Nk, reduceMul → Nf, reducePow → Ng, reduceSub → Nh, reduceBEq → Nz
open Int renaming reduceLT → Za, reduceLE → Zb, reduceToNat → Zc
open And renaming intro → Ai
open Go.AM renaming ashift → Qa, aconv → Qb, aindexAddr → Qc, aindex → Qd, aslice → Qe, abuiltin → Qf, awp_reg_seq → wS, awp_reg_end → wE, awp_seq_k → wK, awp_cond_k → wC
open Go.AM.AV renaming cells → Qg, one → Qh
set_option maxRecDepth 100000
set_option maxHeartbeats 8000000
namespace Go.Proofs.YtbiefppedlodiaaGreatDoor
open Go Go.AM Go.Proofs Tryz
variable {Γ : Nat→List AV}
theorem Lk (k : List UInt8) (i : Nat) (h : i < k.length) (hk : k.length≤64) : (Mac.fill k)[i]'(by rw [Mac.pf k hk]; omega) = k[i]:=by
 simp only [Mac.fill];rw [List.getElem_append_left h]
theorem Ll (k : List UInt8) (i : Nat) (h : ¬ i < k.length) (hi : i < 64) (hk : k.length≤64) : (Mac.fill k)[i]'(by rw [Mac.pf k hk]; omega) = 0:=by
 simp only [Mac.fill];rw [List.getElem_append_right (by omega),List.getElem_replicate]
theorem Iu (x : UInt8) (l : List UInt8) (i : Nat) (h : i < l.length) : Mac.turn x (l.take (i + 1)) = Mac.turn x (l.take i) ++ [l[i] ^^^ x]:=by
 rw [List.take_succ_eq_append_getElem h];simp only [Mac.turn,List.map_append,List.map_cons,List.map_nil]
theorem nS (key : List UInt8) (hk : key.length≤64) (x : UInt8) (s : AS) :
  ai prog Γ 203 [.v (.string ⟨key.toArray⟩),.v (.int .u8 (x.toNat : Int))] s (fun r s'=>r = .v (.string ⟨(Mac.turn x (Mac.fill key)).toArray⟩)∧s' = s):=by
 refine aa func203 rfl ntmps203 results203 (by simp) ?_;have oW:=Mac.pf key hk;refine jA ?_;refine jA ?_;refine wK fun K hK=>?_;refine jA ?_;refine ag ?_;refine aC (fun E s1=>∃ i : Nat,i≤64∧E 0 = .v (.string ⟨key.toArray⟩)∧E 1 = .v (.int .u8 (x.toNat : Int))∧E 6 = .v (.int .i64 i)∧dE s (Mac.turn x ((Mac.fill key).take i)) (E 5) s1)
  (fun E _=>match E 6 with | .v (.int _ i)=>64 - i.toNat | _=>0) ?_ ?_
 ·exact ⟨0,Nat.zero_le _,by simp only [aF,bz,Nc,↓reduceIte,List.getD_cons_succ,List.getD_cons_zero],by simp only [aF,bz,Nc,↓reduceIte,List.getD_cons_succ,List.getD_cons_zero],rfl,by simp only [aF,Nc,↓reduceIte]; exact dE.nil s⟩
 ·rintro E1 s1 ⟨i,hi,e0,e1,e6,bx⟩ -
  refine wK fun K2 aV=>?_;by_cases aX : i < 64
  ·have bI : (i : Int) < 64:=(by omega);have cz : (0 : Int)≤(i : Int):=(by omega);have ZG:=Iu x (Mac.fill key) i (by omega);have SP:=Lk key i;have MT:=Ll key i;refine jB (Ai @e6 (decide_eq_true bI)) ?_;refine jE ?_;refine ab ?_;refine aV _ _ ?_;clear aV K2;refine wK fun K3 br=>?_;refine ag ?_;refine jA ?_;refine wK fun K4 ee=>?_;have se : ∀ (E2 : Env) (c : UInt8),(Mac.fill key)[i]'(by omega) = c→E2 0 = .v (.string ⟨key.toArray⟩)→E2 1 = .v (.int .u8 (x.toNat : Int))→E2 6 = .v (.int .i64 i)→E2 5 = E1 5→E2 7 = .v (.int .u8 (c.toNat : Int))→K4 E2 s1:=by
    intro E2 c hc f0 f1 f6 f5 f7;refine ee _ _ ?_;clear ee K4;rw [hc] at ZG;have Lj:=Mac.xO c x;generalize sM : E1 5 = r6 at bx f5;refine wE fun K hK=>?_;simp only [↓DN,Qa,Qb,Qc,Qd,Qe,Qf,Qg,Qh,reduceCtorEq,↓reduceIte,Na,Nb,Nc,Nk,Nf,Ng,Nh,Za,Zb,Zc,TT,f0,f1,f5,f6,f7,Lj,List.replicate_one];refine cV (ds:=[c ^^^ x]) bx rfl rfl T.c5 T.b5 (by simp [Mac.turn]; omega) ?_;intro r2 s2 h2;rw [← ZG] at h2;refine hK _ _ ?_;clear hK K;simp only [az,ar,if_true,if_false];refine br _ _ ?_;clear br K3;refine jD (Ai @f6 (cE i (by omega))) ?_;refine ⟨⟨i + 1,by omega,f0,f1,rfl,by simpa only [aF,Nc,↓reduceIte] using h2⟩,?_⟩;simp only [e6,aF,↓reduceIte];omega
   by_cases YQ : i < key.length
   ·have fJ:=Oh key i YQ;have hg:=SP YQ hk;generalize key[i] = c at *
    refine jB (Ai @e0 (Ai @e6 (Ai @dB (decide_eq_true (show (i : Int) < (key.length : Int) by omega))))) ?_;refine jE ?_;refine jU (Ai @e0 (Ai @e6 (Ai @cz @fJ))) fun K hK=>?_;refine hK _ _ ?_;clear hK;simp only [az];refine se _ c hg ?_ ?_ ?_ ?_ ?_
    ·simp only [aF,e0,Nc,↓reduceIte]
    ·simp only [aF,e1,Nc,↓reduceIte]
    ·simp only [aF,e6,Nc,↓reduceIte]
    ·simp only [aF,Nc,↓reduceIte]
    ·simp only [aF,↓reduceIte];rfl
   ·have hg:=MT YQ aX hk;refine jB (Ai @e0 (Ai @e6 (Ai @dB (decide_eq_false (show ¬ (i : Int) < (key.length : Int) by omega))))) ?_;refine jF ?_;refine ab ?_;simp only [az];refine se _ 0 hg ?_ ?_ ?_ ?_ ?_
    ·simp only [aF,e0,Nc,↓reduceIte]
    ·simp only [aF,e1,Nc,↓reduceIte]
    ·simp only [aF,e6,Nc,↓reduceIte]
    ·simp only [aF,Nc,↓reduceIte]
    ·simp only [aF,Nc,↓reduceIte];rfl
  ·have bI : ¬ (i : Int) < 64:=(by omega);obtain rfl : i = 64:=(by omega);refine jB (Ai @e6 (decide_eq_false bI)) ?_;refine jF ?_;refine aA ?_;simp only [az,ar,if_true];clear aV K2;refine hK _ _ ?_;clear hK K;rw [List.take_of_length_le (by omega)] at bx;have lj : (Mac.turn x (Mac.fill key)).length = 64:=(by rw [Mac.mC,oW]);have hle:=bx.1;obtain ⟨t,g,e5⟩:=cg bx (by rw [← List.length_pos_iff,lj]; decide);refine jB @e5 ?_;refine jI ?_;exact ⟨_,_,AV.aB.refl _,hle,rfl,rfl⟩
theorem Ce (key l : List UInt8) (hk : key.length≤2 ^ 38) (hl : l.length≤2 ^ 38) (s : AS) :
  ai prog Γ 166 [.v (.string ⟨key.toArray⟩),.v (.string ⟨l.toArray⟩)] s (fun r s'=>r = .v (.string ⟨(Mac.tag key l).toArray⟩)∧s' = s):=by
 refine aa func166 rfl ntmps166 results166 (by simp) ?_;refine jA ?_;refine wK fun K hK=>?_;have se : ∀ (E1 : Env),E1 0 = .v (.string ⟨(Mac.key key).toArray⟩)→E1 1 = .v (.string ⟨l.toArray⟩)→K E1 s:=by
  intro E1 e0 e1;refine hK _ _ ?_;clear hK K;have tI:=Mac.Kx key;have zr : Sha.sum (Mac.turn 54 (Mac.fill (Mac.key key)) ++ l) = Mac.inner key l:=rfl;have D5 : Sha.sum (Mac.turn 92 (Mac.fill (Mac.key key)) ++ Mac.inner key l) = Mac.tag key l:=rfl;have oW:=Mac.pf _ tI;have MF:=Mac.AB key l;have ZE : (Mac.turn 54 (Mac.fill (Mac.key key))).length = 64:=(by rw [Mac.mC,oW]);have ZF : (Mac.turn 92 (Mac.fill (Mac.key key))).length = 64:=(by rw [Mac.mC,oW]);generalize WQ : Mac.key key = kk at *
  refine jS @e0 fun K hK=>?_;refine ad (nS kk tI 92 s) ?_;rintro r s1 ⟨rfl,rfl⟩;refine jN @e0 ?_;refine ad (nS kk tI 54 s1) ?_;rintro r s2 ⟨rfl,rfl⟩;refine jN (Ai @e1 (ff (show (Mac.turn 54 (Mac.fill kk)).length + l.length < 2 ^ 62 by omega))) ?_;refine ad (np (Mac.turn 54 (Mac.fill kk) ++ l) (by rw [List.length_append,ZE]; omega) s2) ?_;rintro r s3 ⟨rfl,rfl⟩;rw [zr];refine jN (ff (show (Mac.turn 92 (Mac.fill kk)).length + (Mac.inner key l).length < 2 ^ 62 by omega)) ?_;refine ad (np (Mac.turn 92 (Mac.fill kk) ++ Mac.inner key l) (by rw [List.length_append,ZF,MF]; decide) s3) ?_;rintro r s4 ⟨rfl,rfl⟩;rw [D5];refine jR hK ?_;clear hK K;exact jJ
 by_cases AR : 64 < key.length
 ·have my : Mac.key key = Sha.sum key:=(by rw [Mac.key,if_pos AR]);rw [my] at se;refine jB (decide_eq_true (show (64 : Int) < (key.length : Int) by omega)) ?_;refine jE ?_;refine jL (np key (by omega) s) ?_;rintro s1 rfl;simp only [az];refine se _ ?_ ?_
  ·simp only [aF,↓reduceIte]
  ·simp only [aF,bz,Nc,↓reduceIte,List.getD_cons_succ,List.getD_cons_zero]
 ·have my : Mac.key key = key:=(by rw [Mac.key,if_neg AR]);rw [my] at se;refine jB (decide_eq_false (show ¬ (64 : Int) < (key.length : Int) by omega)) ?_;refine jF ?_;refine ab ?_;simp only [az];refine se _ ?_ ?_
  ·simp only [aF,bz,Nc,↓reduceIte,List.getD_cons_succ,List.getD_cons_zero]
  ·simp only [aF,bz,Nc,↓reduceIte,List.getD_cons_succ,List.getD_cons_zero]
def nothing : List UInt8:=[119,104,97,116,32,100,111,32,121,97,32,119,97,110,116,32,102,111,114,32,110,111,116,104,105,110,103,63]
theorem FY (a b : List UInt8) : fQ [a,b] = [aj a .any,aj b .any]:=rfl
theorem D6 (c x y : UInt8) : c ||| (x ^^^ y) = 0↔c = 0∧x = y:=by
 rw [UInt8.or_eq_zero_iff,UInt8.xor_eq_zero_iff]
theorem Ot (a b : UInt8) : EA .u8 (a.toNat : Int) (b.toNat : Int) = (((a ||| b).toNat : Nat) : Int):=by
 rw [zW (k:=.u8) rfl a.toNat b.toNat (by simpa [IntKind.bits] using a.toNat_lt) (by simpa [IntKind.bits] using b.toNat_lt),UInt8.toNat_or]
theorem Iv (c : UInt8) : (((c.toNat : Nat) : Int) == 0) = decide (c = 0):=by
 rw [Bool.eq_iff_iff,beq_iff_eq,decide_eq_true_iff,← UInt8.toNat_inj];simp
theorem take_same (a b : List UInt8) (i : Nat) (ha : i < a.length) (hb : i < b.length) : a.take (i + 1) = b.take (i + 1)↔a.take i = b.take i∧a.getD i 0 = b.getD i 0:=by
 rw [List.take_succ_eq_append_getElem ha,List.take_succ_eq_append_getElem hb];have e1 : (a.take i).length = (b.take i).length:=(by simp; omega);constructor
 ·intro h;have:=List.append_inj h e1;refine ⟨this.1,?_⟩;simp only [List.getD_eq_getElem?_getD,List.getElem?_eq_getElem ha,List.getElem?_eq_getElem hb,Option.getD_some];simpa using this.2
 ·rintro ⟨h1,h2⟩;simp only [List.getD_eq_getElem?_getD,List.getElem?_eq_getElem ha,List.getElem?_eq_getElem hb,Option.getD_some] at h2;rw [h1,h2]
theorem FZ (a b : List UInt8) (ha : a.length≤2 ^ 40) (s : AS) :
  ai prog Γ 212 [aj a .any,aj b .any] s (fun r s'=>r = .v (.bool (decide (a = b)))∧s' = s):=by
 refine aa func212 rfl ntmps212 results212 (by simp) ?_;refine jA ?_;refine wK fun K hK=>?_;by_cases cW : a.length = b.length
 ·refine jB (show ((a.length : Int) != (b.length : Int)) = false from by rw [cW]; simp) ?_;refine jF ?_;refine ab ?_;refine hK _ _ ?_;clear hK K;refine jA ?_;refine wK fun K hK=>?_;refine jA ?_;refine ag ?_;refine aC (fun E s2=>∃ (i : Nat) (c : UInt8),i≤a.length∧E 0 = .sl 1 a.length (a.map ah) .any∧E 1 = .sl 1 b.length (b.map ah) .any∧E 5 = .v (.int .u8 (c.toNat : Int))∧E 13 = .v (.int .i64 a.length)∧E 14 = .v (.int .i64 i)∧(c = 0↔a.take i = b.take i)∧s2 = s)
   (fun E _=>match E 14 with | .v (.int _ y)=>a.length - y.toNat | _=>0) ?_ ?_
  ·exact ⟨0,0,by omega,by simp only [aF,bz,Nc,↓reduceIte,List.getD_cons_succ,List.getD_cons_zero,aj],by simp only [aF,bz,Nc,↓reduceIte,List.getD_cons_succ,List.getD_cons_zero,aj],rfl,rfl,rfl,by simp,rfl⟩
  ·rintro E2 s2 ⟨i,c,hi,g0,g1,g5,g13,g14,hc,rfl⟩ -
   by_cases aX : i < a.length
   ·have bI : (i : Int) < (a.length : Int):=(by omega);have jc : (i : Int) < (b.length : Int):=(by omega);have fX : (0 : Int)≤(i : Int):=(by omega);have TH:=KN a i aX;have hgb:=KN b i (by omega);have ZG:=take_same a b i aX (by omega);generalize a.getD i 0 = x at *
    generalize b.getD i 0 = y at *
    have Lj:=Mac.xO x y;have hor:=Ot c (x ^^^ y);have hz:=D6 c x y;refine jB (Ai @g13 (Ai @g14 (decide_eq_true bI))) ?_;refine wK fun K2 aV=>?_;refine jE ?_;refine ab ?_;refine aV _ _ ?_;clear aV K2;refine wK fun K3 br=>?_;refine ag ?_;refine jB @g14 ?_;refine fe T.mixed [] (by kernel_rfl) ?_;intro K hK;refine jV (Ai @g0 (Ai @g1 (Ai @g5 (Ai @fX (Ai @bI (Ai @jc (Ai @TH (Ai @hgb (Ai @Lj @hor))))))))) hK ?_;clear hK K;simp only [az,ar,if_true,if_false];refine br _ _ ?_;clear br K3;refine jD (Ai @g14 (cE i (by omega))) ?_;refine ⟨⟨i + 1,c ||| (x ^^^ y),by omega,g0,g1,rfl,g13,rfl,?_,rfl⟩,?_⟩
    ·rw [hz,hc,ZG]
    ·simp only [g14,aF,↓reduceIte];omega
   ·have bI : ¬ (i : Int) < (a.length : Int):=(by omega);obtain rfl : i = a.length:=(by omega);refine jB (Ai @g13 (Ai @g14 (decide_eq_false bI))) ?_;refine wK fun K2 aV=>?_;refine jF ?_;refine aA ?_;simp only [az,ar,if_true];clear aV K2;refine hK _ _ ?_;clear hK K;rw [List.take_length,cW,List.take_length] at hc;have hr : (((c.toNat : Nat) : Int) == 0) = decide (a = b):=by
     rw [Iv];exact decide_eq_decide.2 hc
    refine jB (Ai @g5 @hr) ?_;exact jJ
 ·refine jB (show ((a.length : Int) != (b.length : Int)) = true from by rw [bne_iff_ne]; omega) ?_;refine jE ?_;refine jA ?_;refine jI ?_;exact ⟨.v (.bool false),_,AV.aB.refl _,AS.le.refl _,by rw [decide_eq_false (fun e=>cW (by rw [e]))],rfl⟩
theorem zz (dO : Γ 0 = dV Sha.H0) (hG : Γ 1 = Sha.K.map wV) (Ou l : List UInt8) (hk : Ou.length≤2 ^ 38) (hl : l.length≤2 ^ 38) (s : AS) :
  ai prog Γ 185 [aj Ou .any,aj l .any] s (fun r s'=>dE s (Mac.tag Ou l) r s'):=by
 refine aa func185 rfl ntmps185 results185 (by simp) ?_;refine jA ?_;refine wS fun K hK=>?_;simp only [↓DN,Qa,Qb,Qc,Qd,Qe,Qf,Qg,Qh,reduceCtorEq,↓reduceIte,Na,Nb,Nc,Nk,Nf,Ng,Nh,Za,Zb,Zc,TT,List.replicate_one];have hm:=nr (Γ:=Γ) dO hG Ou [l] .new hk (by simp) (by simpa using hl) s;rw [show [l].flatten = l from by simp] at hm;refine ad hm ?_;intro r s1 bx;refine jR hK ?_;clear hK K;refine jI ?_;exact ⟨_,_,AV.aB.refl _,AS.le.refl _,bx⟩
theorem _root_.Go.AM.dE.later {s s1 s2 : AS} {l : List UInt8} {r : AV} (h : dE s l r s1) (hle : s1.le s2) : dE s l r s2:=by
 refine ⟨AS.le.trans h.1 hle,?_⟩;rcases h.2 with h | ⟨t,e,h1,h2,h3⟩
 ·exact .inl h
 ·exact .inr ⟨t,e,h1,hle.own t e h2,h3⟩
def AU (l : List UInt8) (r : AV) : Prop:=(l = []∧r = .v (.slice none 0 0))∨∃ t e,r = .sl 1 l.length (l.map ah) (.own t e)
theorem AU.aB {l : List UInt8} {r : AV} (h : AU l r) : r.aB (aj l .any):=by
 rcases h with ⟨rfl,rfl⟩ | ⟨t,e,rfl⟩
 ·exact AV.aI
 ·exact AV.bQ
theorem AU.of {s s' : AS} {l : List UInt8} {r : AV} (h : dE s l r s') : AU l r:=by
 rcases h.2 with ⟨h1,h2⟩ | ⟨t,e,_,_,h3⟩
 ·exact .inl ⟨h1,h2⟩
 ·exact .inr ⟨t,e,h3⟩
theorem Ov (c : UInt8) : dP .u8 (c.toNat : Int) 1 = (((c + 1).toNat : Nat) : Int):=by
 rw [show (1 : Int) = ((1 : Nat) : Int) from rfl,th (k:=.u8) rfl];simp [IntKind.bits,UInt8.toNat_add]
theorem Cf (dO : Γ 0 = dV Sha.H0) (hG : Γ 1 = Sha.K.map wV) (aK info : List UInt8) (hk : aK.length≤2 ^ 37) (hi : info.length≤2 ^ 37) (n : Int) (s : AS) :
  ai prog Γ 146 [aj aK .any,aj info .any,.v (.int .i64 n)] s (fun r s'=>r = .dX [aj (Kdf.get aK info n) .any,.v (.bool (Kdf.ok n))]∧s' = s):=by
 refine aa func146 rfl ntmps146 results146 (by simp) ?_;refine jA ?_;refine wK fun K hK=>?_;by_cases h0 : n < 0
 ·have iz : Kdf.ok n = false:=(by simp [Kdf.ok]; omega);refine jB (decide_eq_true h0) ?_;refine jE ?_;refine jA ?_;refine jI ?_;exact ⟨_,_,AV.cO AV.aI (AV.aB.refl _),AS.le.refl _,by rw [Kdf.get,iz]; rfl,rfl⟩
 by_cases h1 : 8160 < n
 ·have iz : Kdf.ok n = false:=(by simp [Kdf.ok]; omega);refine jB (Ai (decide_eq_false h0) (decide_eq_true h1)) ?_;refine jE ?_;refine jA ?_;refine jI ?_;exact ⟨_,_,AV.cO AV.aI (AV.aB.refl _),AS.le.refl _,by rw [Kdf.get,iz]; rfl,rfl⟩
 ·have iz : Kdf.ok n = true:=(by simp [Kdf.ok]; omega);obtain ⟨m,rfl⟩ : ∃ m : Nat,n = (m : Int):=⟨n.toNat,by omega⟩;have hm : m≤8160:=(by omega);have fJ : Kdf.get aK info (m : Int) = Kdf.expand aK info m:=(by rw [Kdf.get,iz]; rfl);rw [iz,fJ];refine jB (Ai (decide_eq_false h0) (decide_eq_false h1)) ?_;refine jF ?_;refine ab ?_;refine hK _ _ ?_;clear hK K;refine jA ?_;refine wK fun K hK=>?_;refine jA ?_;refine ag ?_;have hmr : 32 * Kdf.rounds m≤8191:=(by unfold Kdf.rounds; omega);refine aC (fun E s1=>∃ i : Nat,i≤Kdf.rounds m∧E 0 = .sl 1 aK.length (aK.map ah) .any∧E 1 = .sl 1 info.length (info.map ah) .any∧E 2 = .v (.int .i64 m)∧E 10 = .v (.int .u8 ((UInt8.ofNat (i + 1)).toNat : Int))∧AU (Kdf.mH aK info i) (E 9)∧dE s (Kdf.row aK info i) (E 8) s1)
   (fun E _=>match E 8 with | .sl _ n _ _=>m - n | _=>m + 1) ?_ ?_
  ·refine ⟨0,Nat.zero_le _,by simp only [aF,bz,Nc,↓reduceIte,List.getD_cons_succ,List.getD_cons_zero,aj],by simp only [aF,bz,Nc,↓reduceIte,List.getD_cons_succ,List.getD_cons_zero,aj],by simp only [aF,bz,Nc,↓reduceIte,List.getD_cons_succ,List.getD_cons_zero],rfl,?_,?_⟩
   ·simp only [aF,Nc,↓reduceIte]; exact .inl ⟨rfl,rfl⟩
   ·simp only [aF,Nc,↓reduceIte]; exact dE.nil s
  ·rintro E2 s2 ⟨i,hir,g0,g1,g2,g10,Lm,bx⟩ -
   refine wK fun K2 aV=>?_;have tw:=Kdf.cS aK info i;have Sf:=Kdf.due m i;have Xy : m - 32 * i≤(match E2 8 with | .sl _ n _ _=>m - n | _=>m + 1):=by
    rcases bx.2 with ⟨Et,e8⟩ | ⟨t,e,_,_,e8⟩
    ·rw [e8];simp only;omega
    ·rw [e8];simp only [tw];exact Nat.le_refl _
   generalize P8 : E2 8 = r8 at bx;generalize hr9 : E2 9 = r9 at Lm;by_cases aX : i < Kdf.rounds m
   ·have bI : 32 * i < m:=Sf.2 aX;have se : ∀ E3 : Env,E3 0 = .sl 1 aK.length (aK.map ah) .any→E3 1 = .sl 1 info.length (info.map ah) .any→E3 2 = .v (.int .i64 m)→E3 10 = .v (.int .u8 ((UInt8.ofNat (i + 1)).toNat : Int))→E3 8 = r8→E3 9 = r9→K2 E3 s2:=by
     intro E3 f0 f1 f2 f10 f8 f9;refine aV _ _ ?_;clear aV K2;refine wK fun K3 br=>?_;refine ag ?_;have FP:=Kdf.sO aK info i;have NW : Kdf.mH aK info (i + 1) = Mac.tag aK (Kdf.mH aK info i ++ info ++ [UInt8.ofNat (i + 1)]):=rfl;have vx : Kdf.row aK info (i + 1) = Kdf.row aK info i ++ Kdf.mH aK info (i + 1):=rfl;have xbv : (Kdf.mH aK info i).length≤32:=by
      cases i with
      | zero=>simp [Kdf.mH]
      | succ j=>rw [Kdf.sO]; exact Nat.le_refl _
     have Yd : ∀ x : AV,List.replicate 3 x = [x,x,x]:=fun _=>rfl;have hw9:=Lm.aB;have Es:=Ov (UInt8.ofNat (i + 1));have yE : UInt8.ofNat (i + 1) + 1 = UInt8.ofNat (i + 1 + 1):=by
      rw [← UInt8.toNat_inj,UInt8.toNat_add,UInt8.toNat_ofNat',UInt8.toNat_ofNat'];simp
     rw [yE] at Es;have tc:=nr (Γ:=Γ) dO hG aK [Kdf.mH aK info i,info,[UInt8.ofNat (i + 1)]] .new (by omega) (by simp) (by simp only [List.flatten_cons,List.flatten_nil,List.append_nil,List.length_append,List.length_cons,List.length_nil]; omega) s2;rw [show [Kdf.mH aK info i,info,[UInt8.ofNat (i + 1)]].flatten = Kdf.mH aK info i ++ info ++ [UInt8.ofNat (i + 1)] from by simp,← NW] at tc;have Ln : ∀ r9' : AV,r9'.aB (aj (Kdf.mH aK info i) .any)→ai prog Γ 180 [.sl 1 aK.length (aK.map ah) .any,.sl 1 3 [r9',.sl 1 info.length (info.map ah) .any,.sl 1 1 [.v (.int .u8 ((UInt8.ofNat (i + 1)).toNat : Int))] .new] .new] s2 (fun r s'=>dE s2 (Kdf.mH aK info (i + 1)) r s'):=fun r9' hw =>
      ai.gz (fU.aB.cons (AV.aB.refl _) (fU.aB.cons (AV.r3 (fU.aB.cons hw (fU.aB.cons (AV.aB.refl _) (fU.aB.cons (AV.bQ (sp:=.new)) fU.aB.nil)))) fU.aB.nil)) tc
     have Ln:=Ln r9 hw9;rcases Lm with ⟨_,rfl⟩ | ⟨t9,e9,rfl⟩;all_goals
      refine wS fun K hK=>?_;simp only [↓DN,Qa,Qb,Qc,Qd,Qe,Qf,Qg,Qh,reduceCtorEq,↓reduceIte,Na,Nb,Nc,Nk,Nf,Ng,Nh,Za,Zb,Zc,TT,f0,f1,f10,f9,List.replicate_one,Yd];refine ad Ln ?_;intro r s3 hr;obtain ⟨t3,e3,rfl⟩:=cg hr (by rw [← List.length_pos_iff,FP]; decide);have Ye:=bx.later hr.1;have Hq:=AU.of hr;rw [FP] at Hq;refine jR hK ?_;clear hK K;refine jU (Ai @f8 @FP) fun K hK=>?_;refine cV (ds:=Kdf.mH aK info (i + 1)) Ye FP.symm rfl T.c5 T.b5 (by rw [tw,FP]; omega) ?_;intro r2 s4 h4;rw [← vx] at h4;obtain ⟨t4,e4,rfl⟩:=cg h4 (by rw [← List.length_pos_iff,Kdf.cS]; omega);refine hK _ _ ?_;clear hK;simp only [az,ar,if_true,if_false];refine br _ _ ?_;clear br K3;refine jD (Ai @f10 @Es) ?_;refine ⟨⟨i + 1,by omega,f0,f1,f2,rfl,by simpa only [aF,Nc,↓reduceIte] using Hq,by simpa only [aF,Nc,↓reduceIte] using h4⟩,?_⟩;refine Nat.lt_of_lt_of_le ?_ Xy;simp only [aF,Nc,↓reduceIte,Kdf.cS];omega
    rcases bx.2 with ⟨Et,rfl⟩ | ⟨t,e,_,_,rfl⟩
    ·have fX : 32 * i = 0:=(by rw [← tw,Et]; rfl);refine jB (Ai @P8 (Ai @g2 (decide_eq_true (show ((0 : Nat) : Int) < (m : Int) by omega)))) ?_;refine jE ?_;refine ab ?_;simp only [az];refine se _ ?_ ?_ ?_ ?_ ?_ ?_
     ·simp only [aF,g0,Nc,↓reduceIte]
     ·simp only [aF,g1,Nc,↓reduceIte]
     ·simp only [aF,g2,Nc,↓reduceIte]
     ·simp only [aF,g10,Nc,↓reduceIte]
     ·simp only [aF,P8,Nc,↓reduceIte]
     ·simp only [aF,hr9,Nc,↓reduceIte]
    ·refine jB (Ai @P8 (Ai @g2 (Ai @tw (decide_eq_true (show ((32 * i : Nat) : Int) < (m : Int) by omega))))) ?_;refine jE ?_;refine ab ?_;simp only [az];refine se _ ?_ ?_ ?_ ?_ ?_ ?_
     ·simp only [aF,g0,Nc,↓reduceIte]
     ·simp only [aF,g1,Nc,↓reduceIte]
     ·simp only [aF,g2,Nc,↓reduceIte]
     ·simp only [aF,g10,Nc,↓reduceIte]
     ·simp only [aF,P8,tw,Nc,↓reduceIte]
     ·simp only [aF,hr9,Nc,↓reduceIte]
   ·obtain rfl : i = Kdf.rounds m:=(by omega);have hle:=Kdf.ui m;have hs:=bx.1;have tc : (0 : Int)≤(m : Int):=(by omega);rcases bx.2 with ⟨Et,rfl⟩ | ⟨t,e,_,_,rfl⟩
    ·have fX : 32 * Kdf.rounds m = 0:=(by rw [← tw,Et]; rfl);obtain rfl : m = 0:=(by omega);refine jB (Ai @P8 (Ai @g2 (decide_eq_false (show ¬ ((0 : Nat) : Int) < ((0 : Nat) : Int) by decide)))) ?_;refine jF ?_;refine aA ?_;simp only [az,ar,if_true];clear aV K2;refine hK _ _ ?_;clear hK K;refine jB (Ai @P8 (Ai @g2 (show ((0 : Nat) : Int) = 0 from rfl))) ?_;refine jI ?_;refine ⟨_,s,AV.cO (AV.aI (sz:=1)) (AV.aB.refl _),hs,?_,rfl⟩;have he : Kdf.expand aK info 0 = []:=List.eq_nil_of_length_eq_zero (Kdf.gu aK info 0);rw [iz,fJ,he];rfl
    ·refine jB (Ai @P8 (Ai @g2 (Ai @tw (decide_eq_false (show ¬ ((32 * Kdf.rounds m : Nat) : Int) < (m : Int) by omega))))) ?_;refine jF ?_;refine aA ?_;simp only [az,ar,if_true];clear aV K2;refine hK _ _ ?_;clear hK K;refine jB (Ai @P8 (Ai @g2 (Ai @tw (Ai @tc (show (m : Int)≤((32 * Kdf.rounds m : Nat) : Int) by omega))))) ?_;refine jI ?_;refine ⟨_,s,AV.cO AV.bQ (AV.aB.refl _),hs,?_,rfl⟩;rw [iz,fJ,Kdf.gu,Nat.sub_zero];rfl
theorem Iw (i : Nat) : cB .u8 (i : Int) = ((UInt8.ofNat i).toNat : Int):=by
 rw [gh (k:=.u8) rfl,UInt8.toNat_ofNat'];simp only [IntKind.bits]
theorem Ow (c : UInt8) : isByte (.v (.int .u8 (c.toNat : Int))) = true:=by
 have:=dZ [c];simpa [ah] using this
theorem Ox (c : UInt8) : lA [.v (.int .u8 (c.toNat : Int))] = ⟨[c].toArray⟩:=eW [c]
theorem vH (aK info : List UInt8) (hk : aK.length≤2 ^ 37) (hi : info.length≤2 ^ 37) (m : Nat) (hm : m≤8160) (s : AS) :
  ai prog Γ 117 [.v (.string ⟨aK.toArray⟩),.v (.string ⟨info.toArray⟩),.v (.int .i64 m)] s (fun r s'=>r = .v (.string ⟨(Kdf.expand aK info m).toArray⟩)∧s' = s):=by
 refine aa func117 rfl ntmps117 results117 (by simp) ?_;have hmr : 32 * Kdf.rounds m≤8191:=(by unfold Kdf.rounds; omega);refine jA ?_;refine jA ?_;refine wK fun K hK=>?_;refine jA ?_;refine ag ?_;refine aC (fun E s1=>∃ i : Nat,i≤Kdf.rounds m∧E 0 = .v (.string ⟨aK.toArray⟩)∧E 1 = .v (.string ⟨info.toArray⟩)∧E 2 = .v (.int .i64 m)∧E 7 = .v (.string ⟨(Kdf.mH aK info i).toArray⟩)∧E 8 = .v (.string ⟨(Kdf.row aK info i).toArray⟩)∧E 9 = .v (.int .i64 ((i + 1 : Nat) : Int))∧s1 = s)
  (fun E _=>match E 9 with | .v (.int _ x)=>300 - x.toNat | _=>0) ?_ ?_
 ·exact ⟨0,Nat.zero_le _,by simp only [aF,bz,Nc,↓reduceIte,List.getD_cons_succ,List.getD_cons_zero],by simp only [aF,bz,Nc,↓reduceIte,List.getD_cons_succ,List.getD_cons_zero],by simp only [aF,bz,Nc,↓reduceIte,List.getD_cons_succ,List.getD_cons_zero],rfl,rfl,rfl,rfl⟩
 ·rintro E2 s2 ⟨i,hir,g0,g1,g2,g7,g8,g9,rfl⟩ -
  refine wK fun K2 aV=>?_;have tw:=Kdf.cS aK info i;have Sf:=Kdf.due m i;by_cases aX : i < Kdf.rounds m
  ·have bI : 32 * i < m:=Sf.2 aX;have FP:=Kdf.sO aK info i;have NW : Kdf.mH aK info (i + 1) = Mac.tag aK (Kdf.mH aK info i ++ info ++ [UInt8.ofNat (i + 1)]):=rfl;have vx : Kdf.row aK info (i + 1) = Kdf.row aK info i ++ Kdf.mH aK info (i + 1):=rfl;have xbv : (Kdf.mH aK info i).length≤32:=by
    cases i with
    | zero=>simp [Kdf.mH]
    | succ j=>rw [Kdf.sO]; exact Nat.le_refl _
   refine jB (Ai @g2 (Ai @g8 (Ai @dB (Ai @tw (decide_eq_true (show ((32 * i : Nat) : Int) < (m : Int) by omega)))))) ?_;refine jE ?_;refine ab ?_;refine aV _ _ ?_;clear aV K2;refine wK fun K3 br=>?_;refine ag ?_;refine wS fun K hK=>?_;simp only [↓DN,Qa,Qb,Qc,Qd,Qe,Qf,Qg,Qh,reduceCtorEq,↓reduceIte,Na,Nb,Nc,Nk,Nf,Ng,Nh,Za,Zb,Zc,TT,g0,g1,g7,g9,Iw,List.replicate_one,Ow,Ox,ff (show (Kdf.mH aK info i).length + info.length < 2 ^ 62 by omega),ff (show (Kdf.mH aK info i).length + info.length + 1 < 2 ^ 62 by omega)];refine ad (Ce aK (Kdf.mH aK info i ++ (info ++ [UInt8.ofNat (i + 1)])) (by omega) (by simp only [List.length_append,List.length_cons,List.length_nil]; omega) s2) ?_;rintro r s3 ⟨rfl,rfl⟩;rw [← List.append_assoc,← NW];refine jR hK ?_;clear hK K;refine jU (Ai @g8 (ff (show (Kdf.row aK info i).length + (Kdf.mH aK info (i + 1)).length < 2 ^ 62 by omega))) fun K hK=>?_;rw [← vx];refine hK _ _ ?_;clear hK;simp only [az,ar,if_true,if_false];refine br _ _ ?_;clear br K3;refine jD (Ai @g9 (cE (i + 1) (by omega))) ?_;refine ⟨⟨i + 1,by omega,g0,g1,g2,rfl,rfl,rfl,rfl⟩,?_⟩;simp only [g9,aF,↓reduceIte];omega
  ·obtain rfl : i = Kdf.rounds m:=(by omega);have hle:=Kdf.ui m;have tc : (0 : Int)≤(m : Int):=(by omega);refine jB (Ai @g2 (Ai @g8 (Ai @dB (Ai @tw (decide_eq_false (show ¬ ((32 * Kdf.rounds m : Nat) : Int) < (m : Int) by omega)))))) ?_;refine jF ?_;refine aA ?_;simp only [az,ar,if_true];clear aV K2;refine hK _ _ ?_;clear hK K;refine jB (Ai @g2 (Ai @g8 (Ai @dB (Ai @tw (Ai @tc (show (m : Int)≤((32 * Kdf.rounds m : Nat) : Int) by omega)))))) ?_;exact jJ
theorem jj (dO : Γ 0 = dV Sha.H0) (hG : Γ 1 = Sha.K.map wV) (aK l c : List UInt8) (n : Int) (hs : aK.length≤2 ^ 36) (hl : l.length≤2 ^ 36) (hc : c.length≤2 ^ 36) (hn : -9223372036854775808≤n∧n≤9223372036854775807) (s : AS) :
  ai prog Γ 102 [aj aK .any,.v (.string ⟨l.toArray⟩),aj c .any,.v (.int .i64 n)] s (fun r s'=>r = .dX [aj (Kdf.label aK l c n) .any,.v (.bool (Kdf.fits l c n))]∧s' = s):=by
 refine aa func102 rfl ntmps102 results102 (by simp) ?_;have sZ : (Kdf.Cv ++ l).length = 4 + l.length:=(by simp [Kdf.Cv]; omega);refine jA ?_;refine jQ fun K hK=>?_;refine ad (pH s) ?_;rintro r s1 ⟨p,rfl,h1⟩;refine jR hK ?_;clear hK K;refine jQ fun K hK=>?_;refine ad (BX s s1 p _ n hn (by simp) h1) ?_;rintro r s2 ⟨rfl,h2⟩;have EC:=eu 2 n ([],false);generalize xbx : bd 2 n ([],false) = To at *
 simp only [List.length_nil] at EC;refine jR hK ?_;clear hK K;refine jS (ff (show 4 + l.length < 2 ^ 62 by omega)) fun K hK=>?_;refine ad (fm s s2 p To _ (Kdf.Cv ++ l) (yL.of (by rw [sZ]; omega) rfl) (by rw [sZ]; omega) h2) ?_;rintro r s3 ⟨rfl,h3⟩;have Hq:=Kdf.mq 1 (Kdf.Cv ++ l) To;generalize xby : dj 1 (Kdf.Cv ++ l) To = st3 at *
 rw [sZ] at Hq;refine jR hK ?_;clear hK K;refine jQ fun K hK=>?_;refine ad (ze s s3 p st3 _ c (yL.any c) (by omega) h3) ?_;rintro r s4 ⟨rfl,h4⟩;have Zw:=Kdf.mq 2 c st3;have Ko : dj 2 c st3 = Kdf.Te l c n:=(by rw [Kdf.Te,xbx,xby]);rw [Ko] at h4 Zw;refine jR hK ?_;clear hK K;refine jQ fun K hK=>?_;refine ad (hM s s4 p _ (by omega) h4) ?_;rintro r s5 ⟨rfl,rfl⟩;by_cases eI : 0≤n∧n≤65535∧l.length≤251∧c.length≤65535
 ·obtain ⟨q0,q1,q2,q3⟩:=eI;have hp:=Kdf.KW l c n q0 q1 q2 q3;have hf : Kdf.fits l c n = Kdf.ok n:=by
   simp only [Kdf.fits,Kdf.ok,decide_eq_true q2,decide_eq_true q3,Bool.true_and]
  have sR : Kdf.label aK l c n = Kdf.get aK (Kdf.text l c n.toNat) n:=by
   rw [Kdf.label,Kdf.get,hf]
  have lj : (Kdf.text l c n.toNat).length≤2 ^ 37:=by
   rw [hp] at Zw;simp only at Zw;omega
  rw [hp];refine jV @Bool.false_eq_true hK ?_;clear hK K;refine wK fun K hK=>?_;refine jA ?_;refine jF ?_;refine ab ?_;refine hK _ _ ?_;clear hK K;refine jK (Cf dO hG aK (Kdf.text l c n.toNat) (by omega) lj n s5) ?_;rintro s6 rfl;refine jI ?_;rw [sR,hf];exact ⟨_,s,AV.aB.refl _,h4.le,rfl,rfl⟩
 ·have hp:=Kdf.Ob l c n eI;have hf : Kdf.fits l c n = false:=by
   cases hf : Kdf.fits l c n with
   | false=>rfl
   | true =>
    simp only [Kdf.fits,Bool.and_eq_true,decide_eq_true_eq] at hf;exact absurd ⟨hf.1.2,by omega,hf.1.1.1,hf.1.1.2⟩ eI
  have sR : Kdf.label aK l c n = []:=(by rw [Kdf.label,hf]; rfl);rw [hp,if_pos rfl];refine jR hK ?_;clear hK K;refine wK fun K hK=>?_;refine jA ?_;refine jE ?_;refine jA ?_;refine jI ?_;rw [sR,hf];exact ⟨_,s,AV.cO AV.aI (AV.aB.refl _),h4.le,rfl,rfl⟩
theorem ph (aK l c : List UInt8) (n : Int) (hs : aK.length≤2 ^ 36) (hf : Kdf.fits l c n = true) (s : AS) :
  ai prog Γ 57 [.v (.string ⟨aK.toArray⟩),.v (.string ⟨l.toArray⟩),.v (.string ⟨c.toArray⟩),.v (.int .i64 n)] s (fun r s'=>r = .v (.string ⟨(Kdf.label aK l c n).toArray⟩)∧s' = s):=by
 refine aa func57 rfl ntmps57 results57 (by simp) ?_;have sR : Kdf.label aK l c n = Kdf.expand aK (Kdf.text l c n.toNat) n.toNat:=(by rw [Kdf.label,hf]; rfl);simp only [Kdf.fits,Bool.and_eq_true,decide_eq_true_eq] at hf;obtain ⟨⟨⟨q1,q2⟩,q3⟩,q4⟩:=hf;obtain ⟨m,rfl⟩ : ∃ m : Nat,n = (m : Int):=⟨n.toNat,by omega⟩;rw [sR,Int.toNat_natCast];have hu : cB .u64 (m : Int) = (m : Int):=De (by omega);have sZ : (Kdf.Cv ++ l).length = 4 + l.length:=(by simp [Kdf.Cv]; omega);have FP : ∀ k n,(be k n).length = k:=iL;refine jA ?_;refine jS @hu fun K hK=>?_;refine ad (nO m 2 (by omega) (by omega) s) ?_;rintro r s1 ⟨rfl,rfl⟩;refine jN (ff (show 4 + l.length < 2 ^ 62 by omega)) ?_;refine ad (qh (Kdf.Cv ++ l) 1 (by rw [sZ]; omega) (by omega) s1) ?_;rintro r s2 ⟨rfl,rfl⟩;have hm4 : Kdf.Cv.length = 4:=rfl;refine jN (Ai @hm4 (Ai @iL (ff (show 2 + (1 + (4 + l.length)) < 2 ^ 62 by omega)))) ?_;refine ad (qh c 2 (by omega) (by omega) s2) ?_;rintro r s3 ⟨rfl,rfl⟩;refine jN (Ai @hm4 (Ai @iL (ff (show 2 + (1 + (4 + l.length)) + (2 + c.length) < 2 ^ 62 by omega)))) ?_;have Zq : be 2 m ++ (be 1 (4 + l.length) ++ (Kdf.Cv ++ (l ++ (be 2 c.length ++ c)))) = Kdf.text l c m:=by
  simp only [Kdf.text,sZ,List.append_assoc]
 have lj : (Kdf.text l c m).length≤2 ^ 37:=by
  rw [← Zq];simp only [List.length_append,iL,hm4];omega
 rw [Zq];refine ad (vH aK (Kdf.text l c m) (by omega) lj m (by omega) s3) ?_;rintro r s4 ⟨rfl,rfl⟩;refine jR hK ?_;clear hK K;exact jJ
theorem Sg (n : Nat) : (if (251 : Int) < (n : Int) then (251 : Int) else (n : Int)) = ((min n 251 : Nat) : Int):=by
 split <;> omega
theorem Lo (l : List UInt8) : l.take (min l.length 251) = l.take 251:=by
 rcases Nat.le_total l.length 251 with h | h
 ·rw [Nat.min_eq_left h,List.take_length,List.take_of_length_le h]
 ·rw [Nat.min_eq_right h]
theorem u7 (l : List UInt8) : Kdf.fits (l.take 251) [] 32 = true:=by
 simp only [Kdf.fits,Bool.and_eq_true,decide_eq_true_eq,List.length_take,List.length_nil];refine ⟨⟨⟨by omega,by decide⟩,by decide⟩,by decide⟩
theorem kg (dO : Γ 0 = dV Sha.H0) (hG : Γ 1 = Sha.K.map wV) (aK l : List UInt8) (hs : aK.length≤2 ^ 36) (hl : l.length≤2 ^ 36) (s : AS) :
  ai prog Γ 42 [aj aK .any,.v (.string ⟨l.toArray⟩)] s (fun r s'=>r = aj (Kdf.derive aK l) .any∧s' = s):=by
 refine aa func42 rfl ntmps42 results42 (by simp) ?_;have hm:=Sg l.length;have tc : (0 : Int)≤((min l.length 251 : Nat) : Int):=(by omega);have sZ : ((min l.length 251 : Nat) : Int)≤(l.length : Int):=(by omega);refine jA ?_;refine jS (Ai @dB (Ai @hm (Ai @tc (Ai @sZ @Lo)))) fun K hK=>?_;have sR:=jj (Γ:=Γ) dO hG aK (l.take 251) [] 32 hs (by rw [List.length_take]; omega) (by simp) (by decide) s;refine ad (ai.gz (fU.aB.cons (AV.aB.refl _) (fU.aB.cons (AV.aB.refl _) (fU.aB.cons AV.aI (fU.aB.cons (AV.aB.refl _) fU.aB.nil)))) sR) ?_;rintro r s1 ⟨rfl,rfl⟩;refine jR hK ?_;clear hK K;refine jA ?_;exact jJ
theorem nT (aK l : List UInt8) (hs : aK.length≤2 ^ 36) (hl : l.length≤2 ^ 36) (s : AS) :
  ai prog Γ 29 [.v (.string ⟨aK.toArray⟩),.v (.string ⟨l.toArray⟩)] s (fun r s'=>r = .v (.string ⟨(Kdf.derive aK l).toArray⟩)∧s' = s):=by
 refine aa func29 rfl ntmps29 results29 (by simp) ?_;refine jA ?_;refine wK fun K hK=>?_;have se : ∀ E1 : Env,E1 0 = .v (.string ⟨aK.toArray⟩)→E1 1 = .v (.string ⟨(l.take 251).toArray⟩)→K E1 s:=by
  intro E1 e0 e1;refine hK _ _ ?_;clear hK K;have sR:=ph (Γ:=Γ) aK (l.take 251) [] 32 hs (u7 l) s;generalize HQ : l.take 251 = l' at *
  have hd : Kdf.label aK l' [] 32 = Kdf.derive aK l:=(by rw [Kdf.derive,HQ]);rw [hd] at sR;refine jS (Ai @e0 @e1) fun K hK=>?_;refine ad sR ?_;rintro r s1 ⟨rfl,rfl⟩;refine jR hK ?_;clear hK K;exact jJ
 by_cases AR : 251 < l.length
 ·refine jB (Ai @dB (decide_eq_true (show (251 : Int) < (l.length : Int) by omega))) ?_;refine jE ?_;refine jD (Ai (show (0 : Int)≤251 from by decide) (show (251 : Int)≤(l.length : Int) by omega)) ?_;refine se _ ?_ ?_
  ·simp only [aF,bz,Nc,↓reduceIte,List.getD_cons_succ,List.getD_cons_zero]
  ·simp only [aF,↓reduceIte]
 ·refine jB (Ai @dB (decide_eq_false (show ¬ (251 : Int) < (l.length : Int) by omega))) ?_;refine jF ?_;refine ab ?_;simp only [az];refine se _ ?_ ?_
  ·simp only [aF,bz,Nc,↓reduceIte,List.getD_cons_succ,List.getD_cons_zero]
  ·rw [List.take_of_length_le (by omega)];simp only [aF,bz,Nc,↓reduceIte,List.getD_cons_succ,List.getD_cons_zero]
abbrev bV (x : UInt8) : AV:=.v (.int .u8 (x.toNat : Int))
theorem Hb (x : UInt8) : x.toNat < 2 ^ IntKind.u8.bits:=by simpa [IntKind.bits] using x.toNat_lt
theorem nU (a b : UInt8) : CA .u8 (a.toNat : Int) (b.toNat : Int) = (((a ^^^ b).toNat : Nat) : Int):=by
 rw [EP (k:=.u8) rfl a.toNat b.toNat (Hb a) (Hb b),UInt8.toNat_xor]
theorem Lp (a b : UInt8) : ll .u8 (a.toNat : Int) (b.toNat : Int) = (((a &&& b).toNat : Nat) : Int):=by
 rw [qD (k:=.u8) rfl a.toNat b.toNat (Hb a) (Hb b),UInt8.toNat_and]
theorem Oy (b : UInt8) : ll .u8 27 (b.toNat : Int) = ((((27 : UInt8) &&& b).toNat : Nat) : Int):=Lp 27 b
theorem Sh (b : UInt8) : ll .u8 (b.toNat : Int) 1 = (((b &&& (1 : UInt8)).toNat : Nat) : Int):=Lp b 1
theorem Oz (b : UInt8) : CA .u8 99 (b.toNat : Int) = ((((99 : UInt8) ^^^ b).toNat : Nat) : Int):=nU 99 b
theorem P9 (a : UInt8) : CB .u8 (a.toNat : Int) = ((((0 : UInt8) - a).toNat : Nat) : Int):=by
 have:=a.toNat_lt;rw [CB,js rfl,UInt8.toNat_sub];simp only [IntKind.bits];rw [show (0 : UInt8).toNat = 0 from rfl];omega
theorem Si (a : UInt8) : jl .u8 (a.toNat : Int) 1 = (((a <<< (1 : UInt8)).toNat : Nat) : Int):=by
 have:=qE (k:=.u8) rfl a.toNat 1;rw [show (1 : Int) = ((1 : Nat) : Int) from rfl,this,UInt8.toNat_shiftLeft];simp [IntKind.bits,Nat.shiftLeft_eq]
theorem Sj (a : UInt8) : eC .u8 (a.toNat : Int) 1 = (((a >>> (1 : UInt8)).toNat : Nat) : Int):=by
 have:=gL (k:=.u8) a.toNat 1;rw [show (1 : Int) = ((1 : Nat) : Int) from rfl,this,UInt8.toNat_shiftRight];simp [IntKind.bits,Nat.shiftRight_eq_div_pow]
theorem Sk (a : UInt8) : eC .u8 (a.toNat : Int) 7 = (((a >>> (7 : UInt8)).toNat : Nat) : Int):=by
 have:=gL (k:=.u8) a.toNat 7;rw [show (7 : Int) = ((7 : Nat) : Int) from rfl,this,UInt8.toNat_shiftRight];simp [IntKind.bits,Nat.shiftRight_eq_div_pow]
theorem AW (b : UInt8) : (b >>> (1 : UInt8)).toNat = b.toNat / 2:=by
 rw [UInt8.toNat_shiftRight];simp [Nat.shiftRight_eq_div_pow]
theorem ko (a : UInt8) (s : AS) : ai prog Γ 252 [bV a] s (fun r s'=>r = bV (Aes.Ml a)∧s' = s):=by
 refine aa func252 rfl ntmps252 results252 (by simp) ?_;refine jA ?_;refine jB (Ai @Si (Ai @Sk (Ai @P9 (Ai @Oy @nU)))) ?_;exact jJ
theorem sS (x y : UInt8) (s : AS) : ai prog Γ 257 [bV x,bV y] s (fun r s'=>r = bV (Aes.gm 8 0 x y)∧s' = s):=by
 refine aa func257 rfl ntmps257 results257 (by simp) ?_;refine jA ?_;refine jA ?_;refine wK fun K hK=>?_;refine ag ?_;refine aC (fun E s1=>∃ (f : Nat) (o a b : UInt8),E 5 = bV o∧E 0 = bV a∧E 1 = bV b∧b.toNat < 2 ^ f∧Aes.gm f o a b = Aes.gm 8 0 x y∧s1 = s)
  (fun E _=>match E 1 with | .v (.int _ i)=>i.toNat | _=>0) ?_ ?_
 ·exact ⟨8,0,x,y,by simp [aF],by simp [aF,bz],by simp [aF,bz],y.toNat_lt,rfl,rfl⟩
 ·rintro E1 s1 ⟨f,o,a,b,h5,h0,h1,hb,hinv,rfl⟩ -
  refine wK fun K2 aV=>?_;by_cases Xu : b.toNat = 0
  ·refine jB (Ai @h1 (decide_eq_false (show ¬ (0 : Int) < (b.toNat : Int) by omega))) ?_;refine jF ?_;refine aA ?_;simp only [az,ar,if_true];refine hK _ _ ?_;clear hK aV K K2;refine jB @h5 ?_;refine jI ?_;refine jW ⟨?_,rfl⟩;have e : b = 0:=UInt8.toNat_inj.1 (by rw [Xu]; rfl);rw [← hinv,e,Aes.GU]
  ·refine jB (Ai @h1 (decide_eq_true (show (0 : Int) < (b.toNat : Int) by omega))) ?_;refine jE ?_;refine ab ?_;refine aV _ _ ?_;clear aV K2;refine wK fun K3 br=>?_;refine ag ?_;refine jB (Ai @h5 (Ai @h0 (Ai @h1 (Ai @Sh (Ai @P9 (Ai @Lp @nU)))))) ?_;refine jU @h0 fun K hK=>?_;refine ad (ko a _) ?_;rintro r s' ⟨rfl,rfl⟩;refine jR hK ?_;clear hK K;simp only [ar,az,if_true,if_false];refine br _ _ ?_;clear br K3;obtain ⟨g,rfl⟩ : ∃ g,f = g + 1:=⟨f - 1,by
    cases f with
    | zero=>simp at hb; omega
    | succ f=>simp⟩
   refine jD (Ai @h1 @Sj) ?_;refine ⟨⟨g,o ^^^ (a &&& ((0 : UInt8) - (b &&& 1))),Aes.Ml a,b >>> 1,rfl,rfl,rfl,?_,hinv,rfl⟩,?_⟩
   ·rw [AW];rw [Nat.pow_succ] at hb;omega
   ·simp only [h1,aF,↓reduceIte,AW];omega
theorem Lq : ∀ n : Nat,n < 256→ll .i64 (n : Int) 1 = ((n % 2 : Nat) : Int):=by decide +kernel
theorem Sl (n : Nat) : eC .i64 (n : Int) 1 = ((n / 2 : Nat) : Int):=by
 have:=gL (k:=.i64) n 1;rw [show (1 : Int) = ((1 : Nat) : Int) from rfl,this];simp [IntKind.bits]
theorem OA : (((1 : Nat) : Int) == 1) = true:=rfl
theorem Ix : (((0 : Nat) : Int) == 1) = false:=rfl
theorem zA (x : UInt8) (s : AS) : ai prog Γ 255 [bV x] s (fun r s'=>r = bV (Aes.inv x)∧s' = s):=by
 refine aa func255 rfl ntmps255 results255 (by simp) ?_;refine jA ?_;refine jA ?_;refine wK fun K hK=>?_;refine jA ?_;refine ag ?_;refine aC (fun E s1=>∃ (f : Nat) (o a : UInt8) (n : Nat),E 3 = bV o∧E 0 = bV a∧E 4 = .v (.int .i64 n)∧n < 2 ^ f∧n < 256∧Aes.pw f o a n = Aes.pw 8 1 x 254∧s1 = s)
  (fun E _=>match E 4 with | .v (.int _ i)=>i.toNat | _=>0) ?_ ?_
 ·exact ⟨8,1,x,254,rfl,by simp only [aF,bz,Nc,↓reduceIte]; rfl,rfl,by decide,by decide,rfl,rfl⟩
 ·rintro E1 s1 ⟨f,o,a,n,h3,h0,h4,hn,Xl,hinv,rfl⟩ -
  refine wK fun K2 aV=>?_;by_cases YT : n = 0
  ·refine jB (Ai @h4 (decide_eq_false (show ¬ (0 : Int) < (n : Int) by omega))) ?_;refine jF ?_;refine aA ?_;simp only [az,ar,if_true];refine hK _ _ ?_;clear hK aV K K2;refine jB @h3 ?_;refine jI ?_;refine jW ⟨?_,rfl⟩;rw [Aes.inv,← hinv,YT,Aes.GW]
  ·refine jB (Ai @h4 (decide_eq_true (show (0 : Int) < (n : Int) by omega))) ?_;refine jE ?_;refine ab ?_;refine aV _ _ ?_;clear aV K2;refine wK fun K3 br=>?_;refine ag ?_;refine wK fun K4 ee=>?_;obtain ⟨g,rfl⟩ : ∃ g,f = g + 1:=⟨f - 1,by
    cases f with
    | zero=>simp at hn; omega
    | succ f=>simp⟩
   have eh : Aes.pw (g + 1) o a n = Aes.pw g (if n % 2 = 1 then Aes.gm 8 0 o a else o) (Aes.gm 8 0 a a) (n / 2):=rfl;have se : ∀ (E2 : Env) (o2 : UInt8),E2 3 = bV o2→E2 0 = bV a→E2 4 = .v (.int .i64 n)→Aes.pw g o2 (Aes.gm 8 0 a a) (n / 2) = Aes.pw 8 1 x 254→K4 E2 s1:=by
    intro E2 o2 e3 e0 e4 yl;refine ee _ _ ?_;clear ee K4;refine jU @e0 fun K hK=>?_;refine ad (sS a a s1) ?_;rintro r s' ⟨rfl,rfl⟩;refine jR hK ?_;clear hK K;simp only [ar,az,if_true,if_false];refine br _ _ ?_;clear br K3;refine jD (Ai @e4 @Sl) ?_;refine ⟨⟨g,o2,Aes.gm 8 0 a a,n / 2,e3,rfl,rfl,by rw [Nat.pow_succ] at hn; omega,by omega,yl,rfl⟩,?_⟩;simp only [h4,aF,↓reduceIte];omega
   by_cases xr : n % 2 = 1
   ·refine jB (Ai @h4 (Ai (Lq n Xl) (Ai @xr @OA))) ?_;refine jE ?_;refine jU (Ai @h3 @h0) fun K hK=>?_;refine ad (sS o a s1) ?_;rintro r s' ⟨rfl,rfl⟩;refine jR hK ?_;clear hK K;refine se _ (Aes.gm 8 0 o a) rfl h0 h4 ?_;rw [← hinv,eh,if_pos xr]
   ·have ym : n % 2 = 0:=(by omega);refine jB (Ai @h4 (Ai (Lq n Xl) (Ai @ym @Ix))) ?_;refine jF ?_;refine ab ?_;refine se _ o h3 h0 h4 ?_;rw [← hinv,eh,if_neg xr]
theorem F0 : ∀ k : Nat,k < 8→ll .u64 (cB .u64 (k : Int)) 7 = ((k : Nat) : Int):=by decide +kernel
theorem Lr : ∀ k : Nat,k < 8→dC .u64 8 ((k : Nat) : Int) = ((8 - k : Nat) : Int):=by decide +kernel
theorem Ls (x : UInt8) (k : Nat) (h0 : 0 < k) (h : k < 8) : EA .u8 (jl .u8 (x.toNat : Int) ((k : Nat) : Int)) (eC .u8 (x.toNat : Int) ((8 - k : Nat) : Int)) = (((Aes.XQ x k).toNat : Nat) : Int):=by
 have hx:=x.toNat_lt;have hd : x.toNat / 2 ^ (8 - k) < 256:=Nat.lt_of_le_of_lt (Nat.div_le_self _ _) hx;rw [qE rfl,gL];simp only [IntKind.bits];rw [Nat.min_eq_left (by omega),Nat.min_eq_left (by omega)];have e:=zW (k:=.u8) rfl (x.toNat * 2 ^ k % 2 ^ 8) (x.toNat / 2 ^ (8 - k)) (Nat.mod_lt _ (by decide)) hd;rw [e];rw [Aes.XQ,UInt8.toNat_or,UInt8.toNat_ofNat',UInt8.toNat_ofNat',Nat.mod_eq_of_lt hd]
theorem D7 (x : UInt8) (k : Nat) (h0 : 0 < k) (h : k < 8) (s : AS) :
  ai prog Γ 256 [bV x,.v (.int .i64 (k : Int))] s (fun r s'=>r = bV (Aes.XQ x k)∧s' = s):=by
 refine aa func256 rfl ntmps256 results256 (by simp) ?_;refine jA ?_;refine jB (F0 k h) ?_;refine jB (Ai @lM (Ai (Lr k h) (Ls x k h0 h))) ?_;refine jI ?_;exact ⟨_,s,AV.aB.refl _,AS.le.refl s,rfl,rfl⟩
theorem Cg (x : UInt8) (s : AS) : ai prog Γ 251 [bV x] s (fun r s'=>r = bV (Aes.box x)∧s' = s):=by
 refine aa func251 rfl ntmps251 results251 (by simp) ?_;have xbB : Aes.box x = Aes.FU (Aes.inv x) 4:=rfl;have hi:=fun s=>zA (Γ:=Γ) x s;rw [xbB];generalize Aes.inv x = y at *
 refine jA ?_;refine jK (hi _) ?_;rintro s1 rfl;refine jB @Oz ?_;refine wK fun K hK=>?_;refine jA ?_;refine ag ?_;refine aC (fun E s2=>∃ i : Nat,i≤4∧E 3 = bV y∧E 4 = bV (Aes.FU y i)∧E 5 = .v (.int .i64 ((i + 1 : Nat) : Int))∧s2 = s1)
  (fun E _=>match E 5 with | .v (.int _ i)=>5 - i.toNat | _=>0) ?_ ?_
 ·exact ⟨0,by omega,rfl,rfl,rfl,rfl⟩
 ·rintro E1 s2 ⟨i,aX,h3,h4,h5,rfl⟩ -
  refine wK fun K2 aV=>?_;by_cases hn : i < 4
  ·refine jB (Ai @h5 (decide_eq_true (show ((i + 1 : Nat) : Int) < 5 by omega))) ?_;refine jE ?_;refine ab ?_;refine aV _ _ ?_;clear aV K2;refine wK fun K3 br=>?_;refine ag ?_;have GM : Aes.FU y (i + 1) = Aes.FU y i ^^^ Aes.XQ y (i + 1):=rfl;generalize Aes.FU y i = o at *
   refine jU (Ai @h3 (Ai @h4 @h5)) fun K hK=>?_;refine ad (D7 y (i + 1) (by omega) (by omega) _) ?_;rintro r s3 ⟨rfl,rfl⟩;refine jV (Ai @h3 (Ai @h4 (Ai @h5 @nU))) hK ?_;clear hK K;simp only [ar,az,if_true,if_false];refine br _ _ ?_;clear br K3;refine jD (Ai @h5 (cE (i + 1) (by omega))) ?_;refine ⟨⟨i + 1,by omega,h3,by simp only [aF,Nc,↓reduceIte,GM],rfl,rfl⟩,?_⟩;simp only [h5,aF,↓reduceIte];omega
  ·obtain rfl : i = 4:=(by omega);refine jB (Ai @h5 (decide_eq_false (show ¬ ((4 + 1 : Nat) : Int) < 5 by decide))) ?_;refine jF ?_;refine aA ?_;simp only [az,ar,if_true];refine hK _ _ ?_;clear hK aV K K2;refine jB @h4 ?_;exact jJ
def a8 (F G : Nat→UInt8) (N i : Nat) : List AV:=(List.range N).map fun n=>ah (if n < i then F n else G n)
theorem da (F G : Nat→UInt8) (N i : Nat) : (a8 F G N i).length = N:=by simp [a8]
theorem dH (F G : Nat→UInt8) (N i : Nat) (x : UInt8) (hx : x = F i) : (a8 F G N i).set i (bV x) = a8 F G N (i + 1):=by
 subst hx;apply List.ext_getElem?;intro k;by_cases e : k = i
 ·subst e;by_cases hk : k < N
  ·rw [List.getElem?_set_self (by rw [da]; exact hk)];simp [a8,hk,ah]
  ·rw [List.getElem?_eq_none (by simp [a8]; omega),List.getElem?_eq_none (by simp [a8]; omega)]
 ·rw [List.getElem?_set_ne (by omega)];by_cases hk : k < N
  ·simp only [a8,List.getElem?_map,List.getElem?_range hk,Option.map_some];by_cases h2 : k < i
   ·rw [if_pos h2,if_pos (by omega)]
   ·rw [if_neg h2,if_neg (by omega)]
  ·rw [List.getElem?_eq_none (by simp [a8]; omega),List.getElem?_eq_none (by simp [a8]; omega)]
theorem fq (F G : Nat→UInt8) (N : Nat) : a8 F G N N = ((List.range N).map F).map ah:=by
 rw [a8,List.map_map];apply List.map_congr_left;intro n hn;rw [if_pos (List.mem_range.1 hn)];rfl
theorem rh (F G : Nat→UInt8) (N : Nat) : a8 F G N 0 = ((List.range N).map G).map ah:=by
 rw [a8,List.map_map];apply List.map_congr_left;intro n hn;rw [if_neg (by omega)];rfl
theorem ie (F : Nat→UInt8) (N : Nat) : a8 F (fun _=>0) N 0 = List.replicate N (bV 0):=by
 rw [rh];apply List.ext_getElem
 ·simp
 ·intro k h1 h2;simp [ah]
theorem lg {l : List UInt8} {N : Nat} (h : l.length = N) : (List.range N).map (fun n=>l.getD n 0) = l:=by
 apply List.ext_getElem
 ·simp [h]
 ·intro k h1 h2;simp [List.getElem?_eq_getElem h2]
theorem ns (F G : Nat→UInt8) (N i j : Nat) (hj : j < N) : List.drop j (a8 F G N i) = ah (if j < i then F j else G j) :: List.drop (j + 1) (a8 F G N i):=by
 apply drop_cons;simp [a8,hj]
theorem de {l : List UInt8} (j : Nat) (h : j < l.length) : List.drop j (l.map ah) = ah (l.getD j 0) :: List.drop (j + 1) (l.map ah):=by
 apply drop_cons;simp [List.getElem?_eq_getElem h]
theorem cd (l : List UInt8) : (l.map ah).all AV.one = true:=oz l
theorem Lt (n : Nat) : cB .u8 (n : Int) = (((UInt8.ofNat n).toNat : Nat) : Int):=by
 have:=rN n;simp only [ah,AV.v.injEq,Value.int.injEq,true_and] at this;exact this.symm
theorem Sm : bg prog 252 = some (List.replicate 256 (bV 0)):=by kernel_rfl
theorem z157 : bg prog 236 = some (List.replicate 16 (bV 0)):=by kernel_rfl
theorem Lu : (List.range 256).map (fun n=>Aes.sb.getD n 0) = Aes.sb:=lg Aes.qZ
theorem D8 (s : AS) : ai prog Γ 239 [] s (fun r s'=>r = .agg (Aes.sb.map ah)∧s' = s):=by
 refine aa func239 rfl ntmps239 results239 (by simp) ?_;refine jS @Sm fun K hK=>?_;intro o0 ho0;refine hK _ _ ?_;clear hK K;refine jS @Sm fun K hK=>?_;intro o1 zL;obtain ⟨PK,xbC⟩:=AS.eP zL;refine hK _ _ ?_;clear hK K;refine wK fun K hK=>?_;refine jA ?_;refine ag ?_;rw [← ie (fun n=>Aes.sb.getD n 0) 256];have ta:=da (fun n=>Aes.sb.getD n 0) (fun _=>0) 256 0;refine aC (fun E s1=>∃ i : Nat,i≤256∧E 0 = .ptr o0 0∧E 1 = .ptr o1 0∧E 3 = .v (.int .i64 i)∧s1 = (s.set o0 (a8 (fun n=>Aes.sb.getD n 0) (fun _=>0) 256 0)).set o1 (a8 (fun n=>Aes.sb.getD n 0) (fun _=>0) 256 i))
  (fun E _=>match E 3 with | .v (.int _ i)=>256 - i.toNat | _=>0) ?_ ?_
 ·exact ⟨0,by omega,rfl,rfl,rfl,rfl⟩
 ·rintro E1 s1 ⟨i,hi,e0,e1,e3,rfl⟩ -
  by_cases aX : i < 256
  ·have fu : (i : Int) < 256:=(by omega);have Ev : (i : Int) < ((256 : Nat) : Int):=(by omega);have fX : (0 : Int)≤(i : Int):=(by omega);refine jB (Ai @e3 (decide_eq_true fu)) ?_;refine wK fun K2 aV=>?_;refine jE ?_;refine ab ?_;refine aV _ _ ?_;clear aV K2;refine wK fun K3 br=>?_;refine ag ?_;refine jB @e3 ?_;have ck:=dH (fun n=>Aes.sb.getD n 0) (fun _=>0) 256 i (Aes.box (UInt8.ofNat i)) (Aes.RZ i aX);have hlen:=da (fun n=>Aes.sb.getD n 0) (fun _=>0) 256 i;generalize a8 (fun n=>Aes.sb.getD n 0) (fun _=>0) 256 i = R at *
   generalize F1 : a8 (fun n=>Aes.sb.getD n 0) (fun _=>0) 256 (i + 1) = R' at *
   refine jU (Ai @e1 @Lt) fun K hK=>?_;refine ad (Cg (UInt8.ofNat i) _) ?_;rintro r s2 ⟨rfl,rfl⟩;refine jN (Ai @e1 (Ai @fX (Ai @fu (Ai @Ev (Ai @ck @hlen))))) ?_;refine ⟨by omega,hK _ _ ?_⟩;clear hK K;simp only [ar,az,if_true,if_false];refine br _ _ ?_;clear br K3;refine jD (Ai @e3 (cE i (by omega))) ?_;refine ⟨⟨i + 1,by omega,e0,e1,rfl,by rw [F1]⟩,?_⟩;simp only [e3,aF,↓reduceIte];omega
  ·have fu : ¬ (i : Int) < 256:=(by omega);obtain rfl : i = 256:=(by omega);refine jB (Ai @e3 (decide_eq_false fu)) ?_;refine wK fun K2 aV=>?_;refine jF ?_;refine aA ?_;simp only [az,ar,if_true];clear aV K2;refine hK _ _ ?_;clear hK K;rw [fq,Lu];have yC : (Aes.sb.map ah).length = 256:=(by rw [List.length_map,Aes.qZ]);have bR:=cd Aes.sb;have dN : List.take 256 (Aes.sb.map ah) = Aes.sb.map ah:=List.take_of_length_le (by omega);generalize Aes.sb.map ah = X at *
   generalize a8 (fun n=>Aes.sb.getD n 0) (fun _=>0) 256 0 = R0 at *
   refine jS (Ai @e0 (Ai @e1 (Ai @yC (Ai @dN (Ai @bR (Ai @PK @PK.symm)))))) fun K hK=>?_;rw [bA R0 X (by omega)];refine ⟨by omega,hK _ _ ?_⟩;clear hK K;refine aW ?_;refine ev (v:=.agg X) (o:=o0) (off:=0) e0 (AS.ae _ _ _) (by rw [T.Q7]; decide) (by simp only [↓DN,Qa,Qb,Qc,Qd,Qe,Qf,Qg,Qh,reduceCtorEq,↓reduceIte,Na,Nb,Nc,Nk,Nf,Ng,Nh,Za,Zb,Zc,TT,yC,dN]) ?_;exact ⟨_,s,AV.aB.refl _,AS.aE (AS.aE (AS.aE (AS.le.refl s) ho0 _) xbC _) ho0 _,rfl,rfl⟩
theorem OB (a : Nat) : il (a : Int) 4 = ((a % 4 : Nat) : Int):=kK a 4
theorem add_const (a c : Nat) (h : a < 1000) (hc : c < 1000) : dP .i64 (a : Int) ((c : Nat) : Int) = ((a + c : Nat) : Int):=by
 rw [eE (by omega)];rfl
theorem Lv (a : Nat) (h : a < 1000) : dP .i64 (a : Int) 1 = ((a + 1 : Nat) : Int):=add_const a 1 h (by omega)
theorem Sn (a : Nat) (h : a < 1000) : dP .i64 (a : Int) 2 = ((a + 2 : Nat) : Int):=add_const a 2 h (by omega)
theorem Sq (a : Nat) (h : a < 1000) : dP .i64 (a : Int) 3 = ((a + 3 : Nat) : Int):=add_const a 3 h (by omega)
theorem kx {s : AS} {o p q : Nat} {x y : List AV} (h : (if q = p then some x else if q = o then some y else s.av q) = none) : q≠p∧q≠o∧s.av q = none:=by
 by_cases h1 : q = p
 ·rw [if_pos h1] at h; cases h
 ·rw [if_neg h1] at h;by_cases h2 : q = o
  ·rw [if_pos h2] at h; cases h
  ·rw [if_neg h2] at h; exact ⟨h1,h2,h⟩
theorem sT (b k : List UInt8) (hb : b.length = 16) (hk : k.length = 16) (s : AS) :
  ai prog Γ 241 [.agg (b.map ah),.agg (k.map ah)] s (fun r s'=>r = .agg ((Aes.add b k).map ah)∧s' = s):=by
 refine aa func241 rfl ntmps241 results241 (by simp) ?_
 have hF : (List.range 16).map (fun n=>b.getD n 0 ^^^ k.getD n 0) = Aes.add b k:=rfl
 have hR0 : a8 (fun n=>b.getD n 0 ^^^ k.getD n 0) (fun n=>b.getD n 0) 16 0 = b.map ah:=by rw [rh,lg hb]
 have tI : (k.map ah).length = 16:=by rw [List.length_map,hk]
 refine wS fun K hK=>?_
 simp only [↓DN,Qa,Qb,Qc,Qd,Qe,Qf,Qg,Qh,reduceCtorEq,↓reduceIte,Na,Nb,Nc,Nk,Nf,Ng,Nh,Za,Zb,Zc,TT,z157]
 intro o2 pQ o3 zl
 obtain ⟨nZ,zm⟩:=AS.eP zl
 intro o4 B4
 obtain ⟨OC,Il,uc⟩:=kx B4
 rw [show ([AV.v (.int .u8 0),AV.v (.int .u8 0),AV.v (.int .u8 0),AV.v (.int .u8 0),AV.v (.int .u8 0),AV.v (.int .u8 0),AV.v (.int .u8 0),AV.v (.int .u8 0),AV.v (.int .u8 0),AV.v (.int .u8 0),AV.v (.int .u8 0),AV.v (.int .u8 0),AV.v (.int .u8 0),AV.v (.int .u8 0),AV.v (.int .u8 0),AV.v (.int .u8 0)] : List AV) = List.replicate 16 (bV 0) from rfl]
 refine hK _ _ ?_;clear hK K
 rw [← hR0]
 have j2 : (((s.set o2 (a8 (fun n=>b.getD n 0 ^^^ k.getD n 0) (fun n=>b.getD n 0) 16 0)).set o3 (k.map ah)).set o4 (List.replicate 16 (bV 0))).av o2 = some (a8 (fun n=>b.getD n 0 ^^^ k.getD n 0) (fun n=>b.getD n 0) 16 0):=by
  rw [AS.ao _ Il.symm,AS.ao _ nZ.symm,AS.ae]
 have j3 : (((s.set o2 (a8 (fun n=>b.getD n 0 ^^^ k.getD n 0) (fun n=>b.getD n 0) 16 0)).set o3 (k.map ah)).set o4 (List.replicate 16 (bV 0))).av o3 = some (k.map ah):=by
  rw [AS.ao _ OC.symm,AS.ae]
 have j4 : (((s.set o2 (a8 (fun n=>b.getD n 0 ^^^ k.getD n 0) (fun n=>b.getD n 0) 16 0)).set o3 (k.map ah)).set o4 (List.replicate 16 (bV 0))).av o4 = some (List.replicate 16 (bV 0)):=AS.ae _ _ _
 have hle : s.le (((s.set o2 (a8 (fun n=>b.getD n 0 ^^^ k.getD n 0) (fun n=>b.getD n 0) 16 0)).set o3 (k.map ah)).set o4 (List.replicate 16 (bV 0))):=AS.aE (AS.aE (AS.aE (AS.le.refl s) pQ _) zm _) uc _
 generalize (((s.set o2 (a8 (fun n=>b.getD n 0 ^^^ k.getD n 0) (fun n=>b.getD n 0) 16 0)).set o3 (k.map ah)).set o4 (List.replicate 16 (bV 0))) = s0 at *
 clear zl B4 hR0
 have rD : (List.replicate 16 (bV 0)).length = 16:=by simp
 generalize List.replicate 16 (bV 0) = Z at *
 refine wK fun K hK=>?_
 refine wS fun K hK=>?_
 simp only [↓DN,Qa,Qb,Qc,Qd,Qe,Qf,Qg,Qh,reduceCtorEq,↓reduceIte,Na,Nb,Nc,Nk,Nf,Ng,Nh,Za,Zb,Zc,TT]
 refine hK _ _ ?_;clear hK K
 refine ag ?_
 refine aC (fun E s1=>∃ i : Nat,i≤16∧E 2 = .ptr o2 0∧E 3 = .ptr o3 0∧E 4 = .ptr o4 0∧E 6 = .v (.int .i64 i)∧s1.av o2 = some (a8 (fun n=>b.getD n 0 ^^^ k.getD n 0) (fun n=>b.getD n 0) 16 i)∧s1.av o3 = some (k.map ah)∧s1.av o4 = some Z∧s.le s1)
  (fun E _=>match E 6 with | .v (.int _ i)=>16 - i.toNat | _=>0) ?_ ?_
 ·exact ⟨0,by omega,by simp only [aF,Nc,↓reduceIte],by simp only [aF,Nc,↓reduceIte],by simp only [aF,Nc,↓reduceIte],by simp only [aF,↓reduceIte]; rfl,j2,j3,j4,hle⟩
 ·clear j2 j3 j4 hle
  rintro E1 s1 ⟨i,hi,e2,e3,e4,e6,j2,j3,j4,hle⟩ -
  by_cases aX : i < 16
  ·have fu : (i : Int) < 16:=by omega
   have Ev : (i : Int) < ((16 : Nat) : Int):=by omega
   have fX : (0 : Int)≤(i : Int):=by omega
   refine wS fun K hK=>?_
   simp only [↓DN,Qa,Qb,Qc,Qd,Qe,Qf,Qg,Qh,reduceCtorEq,↓reduceIte,Na,Nb,Nc,Nk,Nf,Ng,Nh,Za,Zb,Zc,TT,e6,decide_eq_true fu]
   refine hK _ _ ?_;clear hK K
   refine wK fun K2 aV=>?_
   refine wC fun X Y hX hY=>?_
   simp only [UP,DF,Nc,↓reduceIte,DB]
   refine hX ?_;clear hX hY X Y
   refine ab ?_
   refine aV _ _ ?_;clear aV K2
   refine wK fun K3 br=>?_
   refine ag ?_
   refine wS fun K hK=>?_
   simp only [↓DN,Qa,Qb,Qc,Qd,Qe,Qf,Qg,Qh,reduceCtorEq,↓reduceIte,Na,Nb,Nc,Nk,Nf,Ng,Nh,Za,Zb,Zc,TT,e6]
   refine hK _ _ ?_;clear hK K
   have d2:=ns (fun n=>b.getD n 0 ^^^ k.getD n 0) (fun n=>b.getD n 0) 16 i i aX
   rw [if_neg (Nat.lt_irrefl i)] at d2
   have d3:=de (l:=k) i (by omega)
   have ck:=dH (fun n=>b.getD n 0 ^^^ k.getD n 0) (fun n=>b.getD n 0) 16 i _ rfl
   have hlen:=da (fun n=>b.getD n 0 ^^^ k.getD n 0) (fun n=>b.getD n 0) 16 i
   generalize F1 : a8 (fun n=>b.getD n 0 ^^^ k.getD n 0) (fun n=>b.getD n 0) 16 (i + 1) = R' at *
   generalize a8 (fun n=>b.getD n 0 ^^^ k.getD n 0) (fun n=>b.getD n 0) 16 i = R at *
   generalize b.getD i 0 = x at *
   generalize k.getD i 0 = y at *
   generalize k.map ah = Y at *
   refine cH T.mixed [(o2,R),(o3,Y)] [] [2,5] [8] (by kernel_rfl) (by simp only [aG,aJ,and_true]; simp [AS.set,aF,j2,j3]) ?_
   intro K hK
   simp only [↓bp,↓a7,dh,dd,aO,aS,aG,aJ,List.any_cons,List.any_nil,List.contains_cons,List.contains_nil,Nat.reduceBEq,Bool.or_false,Bool.or_true,Bool.or_self,Bool.false_or,↓DN,Qa,Qb,Qc,Qd,Qe,Qf,Qg,Qh,reduceCtorEq,↓reduceIte,Na,Nb,Nc,Nk,Nf,Ng,Nh,Za,Zb,Zc,TT,e2,e3,e6,fX,fu,Ev,d2,d3,nZ,nZ.symm,j2,j3,ah,nU,ck,hlen,tI]
   refine ⟨by omega,hK _ _ ?_⟩
   clear hK K
   simp only [ar,az,if_true,if_false]
   refine br _ _ ?_;clear br K3
   refine wE fun K hK=>?_
   simp only [↓DN,Qa,Qb,Qc,Qd,Qe,Qf,Qg,Qh,reduceCtorEq,↓reduceIte,Na,Nb,Nc,Nk,Nf,Ng,Nh,Za,Zb,Zc,TT,e6,cE i (by omega)]
   refine hK _ _ ?_;clear hK K
   refine ⟨⟨i + 1,by omega,by simp only [aF,e2,Nc,↓reduceIte],by simp only [aF,e3,Nc,↓reduceIte],by simp only [aF,e4,Nc,↓reduceIte],by simp only [aF,↓reduceIte],by rw [F1]; exact AS.ae _ _ _,by rw [AS.ao _ nZ]; exact j3,by rw [AS.ao _ Il]; exact j4,AS.aE hle pQ _⟩,?_⟩
   simp only [e6,aF,↓reduceIte]
   omega
  ·have fu : ¬ (i : Int) < 16:=by omega
   obtain rfl : i = 16:=by omega
   refine wS fun K hK=>?_
   simp only [↓DN,Qa,Qb,Qc,Qd,Qe,Qf,Qg,Qh,reduceCtorEq,↓reduceIte,Na,Nb,Nc,Nk,Nf,Ng,Nh,Za,Zb,Zc,TT,e6,decide_eq_false fu]
   refine hK _ _ ?_;clear hK K
   refine wK fun K2 aV=>?_
   refine wC fun X Y hX hY=>?_
   simp only [UP,DF,Nc,↓reduceIte,DB]
   refine hY ?_;clear hX hY X Y
   refine aA ?_
   simp only [az,ar,if_true]
   clear aV K2
   refine hK _ _ ?_;clear hK K
   rw [fq,hF] at j2
   have yC : ((Aes.add b k).map ah).length = 16:=by rw [List.length_map,Aes.Cc]
   have bR:=cd (Aes.add b k)
   have dN : List.take 16 ((Aes.add b k).map ah) = (Aes.add b k).map ah:=List.take_of_length_le (by omega)
   generalize (Aes.add b k).map ah = X at *
   refine wS fun K hK=>?_
   simp only [↓DN,Qa,Qb,Qc,Qd,Qe,Qf,Qg,Qh,reduceCtorEq,↓reduceIte,Na,Nb,Nc,Nk,Nf,Ng,Nh,Za,Zb,Zc,TT,e2,e4,j2,j4,yC,dN,bR,Il,Il.symm]
   rw [bA Z X (by omega)]
   refine ⟨by omega,hK _ _ ?_⟩
   clear hK K
   refine aW ?_
   refine ev (v:=.agg X) (o:=o4) (off:=0) (by simp only [aF,e4,Nc,↓reduceIte]) (AS.ae _ _ _) (by rw [T.JI]; decide) (by simp only [↓DN,Qa,Qb,Qc,Qd,Qe,Qf,Qg,Qh,reduceCtorEq,↓reduceIte,Na,Nb,Nc,Nk,Nf,Ng,Nh,Za,Zb,Zc,TT,yC,dN]) ?_
   exact ⟨_,s,AV.aB.refl _,AS.aE hle uc _,rfl,rfl⟩
theorem v8 : ¬ (4 : Int) = 0:=by decide
def vI (c : List UInt8) : List UInt8:=(List.range 4).map fun i=>Aes.mx (fun j=>c.getD j 0) i
theorem Lw (c : List UInt8) : (vI c).length = 4:=by simp [vI]
theorem Ch (c : List UInt8) (hc : c.length = 4) (s : AS) :
  ai prog Γ 253 [.agg (c.map ah)] s (fun r s'=>r = .agg ((vI c).map ah)∧s' = s):=by
 refine aa func253 rfl ntmps253 results253 (by simp) ?_;have hF : (List.range 4).map (fun i=>Aes.mx (fun j=>c.getD j 0) i) = vI c:=rfl;have eV : (c.map ah).length = 4:=(by rw [List.length_map,hc]);have hz4 : ([.v (.int .u8 0),.v (.int .u8 0),.v (.int .u8 0),.v (.int .u8 0)] : List AV) = List.replicate 4 (bV 0):=rfl;refine jQ fun K hK=>?_;intro o1 zL o2 pQ;obtain ⟨Mj,Yf⟩:=AS.eP pQ;rw [hz4];refine hK _ _ ?_;clear hK K;refine jQ fun K hK=>?_;intro o3 zl;obtain ⟨nZ,Qi,zm⟩:=kx zl;rw [hz4];refine hK _ _ ?_;clear hK K;generalize me : ((s.set o1 (c.map ah)).set o2 (List.replicate 4 (bV 0))).set o3 (List.replicate 4 (bV 0)) = s0 at *
 have j1 : s0.av o1 = some (c.map ah):=(by rw [← me,AS.ao _ Qi.symm,AS.ao _ Mj.symm,AS.ae]);have j2 : s0.av o2 = some (List.replicate 4 (bV 0)):=(by rw [← me,AS.ao _ nZ.symm,AS.ae]);have j3 : s0.av o3 = some (List.replicate 4 (bV 0)):=(by rw [← me]; exact AS.ae _ _ _);have hle : s.le s0:=(by rw [← me]; exact AS.aE (AS.aE (AS.aE (AS.le.refl s) zL _) Yf _) zm _);clear me zl pQ;have rD : (List.replicate 4 (bV 0)).length = 4:=(by simp);rw [← ie (fun i=>Aes.mx (fun j=>c.getD j 0) i) 4] at j3;generalize List.replicate 4 (bV 0) = Z at *
 refine wK fun K hK=>?_;refine jA ?_;refine ag ?_;refine aC (fun E s1=>∃ i : Nat,i≤4∧E 1 = .ptr o1 0∧E 2 = .ptr o2 0∧E 3 = .ptr o3 0∧E 5 = .v (.int .i64 i)∧s1.av o3 = some (a8 (fun i=>Aes.mx (fun j=>c.getD j 0) i) (fun _=>0) 4 i)∧s1.av o1 = some (c.map ah)∧s1.av o2 = some Z∧s.le s1)
  (fun E _=>match E 5 with | .v (.int _ i)=>4 - i.toNat | _=>0) ?_ ?_
 ·exact ⟨0,by omega,rfl,rfl,rfl,rfl,j3,j1,j2,hle⟩
 ·clear j1 j2 j3 hle;rintro E1 s1 ⟨i,hi,e1,e2,e3,e5,j3,j1,j2,hle⟩ -
  by_cases aX : i < 4
  ·have fu : (i : Int) < 4:=(by omega);have Ev : (i : Int) < ((4 : Nat) : Int):=(by omega);have fX : (0 : Int)≤(i : Int):=(by omega);refine jB (Ai @e5 (decide_eq_true fu)) ?_;refine wK fun K2 aV=>?_;refine jE ?_;refine ab ?_;refine aV _ _ ?_;clear aV K2;refine wK fun K3 br=>?_;refine ag ?_;refine jB @e5 ?_;have ck:=dH (fun i=>Aes.mx (fun j=>c.getD j 0) i) (fun _=>0) 4 i _ rfl;have hlen:=da (fun i=>Aes.mx (fun j=>c.getD j 0) i) (fun _=>0) 4 i;have Hp : Aes.mx (fun j=>c.getD j 0) i = (((Aes.Ml (c.getD i 0) ^^^ Aes.Ml (c.getD ((i + 1) % 4) 0)) ^^^ c.getD ((i + 1) % 4) 0) ^^^ c.getD ((i + 2) % 4) 0) ^^^ c.getD ((i + 3) % 4) 0:=rfl;rw [Hp] at ck;have d0:=de (l:=c) i (by omega);have d1:=de (l:=c) ((i + 1) % 4) (by omega);have d2:=de (l:=c) ((i + 2) % 4) (by omega);have d3:=de (l:=c) ((i + 3) % 4) (by omega);have k1 : (0 : Int)≤(((i + 1) % 4 : Nat) : Int):=(by omega);have k2 : (0 : Int)≤(((i + 2) % 4 : Nat) : Int):=(by omega);have k3 : (0 : Int)≤(((i + 3) % 4 : Nat) : Int):=(by omega);have m1 : (((i + 1) % 4 : Nat) : Int) < ((4 : Nat) : Int):=(by omega);have m2 : (((i + 2) % 4 : Nat) : Int) < ((4 : Nat) : Int):=(by omega);have m3 : (((i + 3) % 4 : Nat) : Int) < ((4 : Nat) : Int):=(by omega);clear Hp;generalize F1 : a8 (fun i=>Aes.mx (fun j=>c.getD j 0) i) (fun _=>0) 4 (i + 1) = R' at *
   generalize a8 (fun i=>Aes.mx (fun j=>c.getD j 0) i) (fun _=>0) 4 i = R at *
   generalize c.getD i 0 = x0 at *
   generalize c.getD ((i + 1) % 4) 0 = x1 at *
   generalize c.getD ((i + 2) % 4) 0 = x2 at *
   generalize c.getD ((i + 3) % 4) 0 = x3 at *
   generalize c.map ah = Y at *
   have a1:=Lv i (by omega);have a2:=Sn i (by omega);have a3:=Sq i (by omega);refine cH T.mixed [(o1,Y),(o3,R)] [4,10] [3,9,16,22,28] [31] (by kernel_rfl) (by simp only [aG,aJ,and_true]; simp [AS.set,aF,j1,j3]) ?_;intro K hK;simp only [↓bp,↓a7,dh,dd,aO,aS,aG,aJ,List.any_cons,List.any_nil,List.contains_cons,List.contains_nil,Nat.reduceBEq,Bool.or_false,Bool.or_true,Bool.or_self,Bool.false_or,↓DN,Qa,Qb,Qc,Qd,Qe,Qf,Qg,Qh,reduceCtorEq,↓reduceIte,Na,Nb,Nc,Nk,Nf,Ng,Nh,Za,Zb,Zc,TT,e1,e3,e5,fX,fu,Ev,k1,k2,k3,m1,m2,m3,d0,d1,d2,d3,a1,a2,a3,OB,v8,Qi,Qi.symm,j1,j3,ah,nU,ck,hlen,eV];refine ad (ko x0 _) ?_;rintro r sa ⟨rfl,rfl⟩;simp only [↓cj,↓bM,bY,↓bp,↓a7,dh,dd,aO,aS,aG,aJ,List.any_cons,List.any_nil,DX,Nat.reduceBEq,↓DN,Qa,Qb,Qc,Qd,Qe,Qf,Qg,Qh,reduceCtorEq,↓reduceIte,Na,Nb,Nc,Nk,Nf,Ng,Nh,Za,Zb,Zc,TT,e1,e3,e5,fX,fu,Ev,k1,k2,k3,m1,m2,m3,d0,d1,d2,d3,a1,a2,a3,OB,v8,Qi,Qi.symm,j1,j3,ah,nU,ck,hlen,eV];refine ad (ko x1 _) ?_;rintro r sb ⟨rfl,rfl⟩;simp only [↓cj,↓bM,bY,↓bp,↓a7,dh,dd,aO,aS,aG,aJ,List.any_cons,List.any_nil,DX,Nat.reduceBEq,↓DN,Qa,Qb,Qc,Qd,Qe,Qf,Qg,Qh,reduceCtorEq,↓reduceIte,Na,Nb,Nc,Nk,Nf,Ng,Nh,Za,Zb,Zc,TT,e1,e3,e5,fX,fu,Ev,k1,k2,k3,m1,m2,m3,d0,d1,d2,d3,a1,a2,a3,OB,v8,Qi,Qi.symm,j1,j3,ah,nU,ck,hlen,eV];refine ⟨by omega,hK _ _ ?_⟩;clear hK K;simp only [ar,az,if_true,if_false];refine br _ _ ?_;clear br K3;refine jD (Ai @e5 (cE i (by omega))) ?_;refine ⟨⟨i + 1,by omega,e1,e2,e3,rfl,by rw [F1]; exact AS.ae _ _ _,by rw [AS.ao _ Qi.symm]; exact j1,by rw [AS.ao _ nZ.symm]; exact j2,AS.aE hle zm _⟩,?_⟩;simp only [e5,aF,↓reduceIte];omega
  ·have fu : ¬ (i : Int) < 4:=(by omega);obtain rfl : i = 4:=(by omega);refine jB (Ai @e5 (decide_eq_false fu)) ?_;refine wK fun K2 aV=>?_;refine jF ?_;refine aA ?_;simp only [az,ar,if_true];clear aV K2;refine hK _ _ ?_;clear hK K;rw [fq,hF] at j3;have yC : ((vI c).map ah).length = 4:=(by rw [List.length_map,Lw]);have bR:=cd (vI c);have dN : List.take 4 ((vI c).map ah) = (vI c).map ah:=List.take_of_length_le (by omega);generalize (vI c).map ah = X at *
   refine jS (Ai @e2 (Ai @e3 (Ai @j2 (Ai @j3 (Ai @yC (Ai @dN (Ai @bR (Ai @nZ @nZ.symm)))))))) fun K hK=>?_;rw [bA Z X (by omega)];refine ⟨by omega,hK _ _ ?_⟩;clear hK K;refine aW ?_;refine ev (v:=.agg X) (o:=o2) (off:=0) e2 (AS.ae _ _ _) (by rw [T.Q9]; decide) (by simp only [↓DN,Qa,Qb,Qc,Qd,Qe,Qf,Qg,Qh,reduceCtorEq,↓reduceIte,Na,Nb,Nc,Nk,Nf,Ng,Nh,Za,Zb,Zc,TT,yC,dN]) ?_;exact ⟨_,s,AV.aB.refl _,AS.aE hle Yf _,rfl,rfl⟩
theorem u9 {s : AS} {o p q r : Nat} {x y z : List AV} (h : (if r = q then some z else if r = p then some y else if r = o then some x else s.av r) = none) : r≠q∧r≠p∧r≠o∧s.av r = none:=by
 by_cases h1 : r = q
 ·rw [if_pos h1] at h; cases h
 ·rw [if_neg h1] at h;obtain ⟨h2,h3,h4⟩:=kx h;exact ⟨h1,h2,h3,h4⟩
theorem Yg (a : Nat) : il (a : Int) 16 = ((a % 16 : Nat) : Int):=kK a 16
theorem ri : ¬ (16 : Int) = 0:=by decide
def um (b : List UInt8) (nv : Nat) : List UInt8:=(List.range 4).map fun i=>Aes.sh b (4 * nv + i)
def od (b : List UInt8) (last : Bool) (n : Nat) : UInt8:=(Aes.GX b last).getD n 0
def oe (b : List UInt8) (last : Bool) (nv : Nat) : List UInt8:=(List.range 4).map fun i=>od b last (4 * nv + i)
theorem Iy (b : List UInt8) (nv : Nat) (h : nv < 4) : um b nv = oe b true nv:=by
 unfold um oe;apply List.map_congr_left;intro i hi;have:=List.mem_range.1 hi;rw [od,Aes.GY b true _ (by omega),if_pos rfl]
theorem wc (b : List UInt8) (nv i : Nat) (h : i < 4) : (um b nv).getD i 0 = Aes.sh b (4 * nv + i):=Aes.uj _ 4 i 0 h
theorem F2 (b : List UInt8) (nv : Nat) (h : nv < 4) : vI (um b nv) = oe b false nv:=by
 unfold vI oe;apply List.map_congr_left;intro i hi;have ZH:=List.mem_range.1 hi;rw [od,Aes.GY b false _ (by omega)];simp only [Bool.false_eq_true,if_false];have e1 : (4 * nv + i) / 4 = nv:=(by omega);have e2 : (4 * nv + i) % 4 = i:=(by omega);rw [e1,e2];unfold Aes.mx;simp only [wc b nv i ZH,wc b nv ((i + 1) % 4) (by omega),wc b nv ((i + 2) % 4) (by omega),wc b nv ((i + 3) % 4) (by omega)]
theorem Yh (b : List UInt8) (nv row : Nat) (h : row < 4) : Aes.S (b.getD ((4 * (nv + row) + row) % 16) 0) = Aes.sh b (4 * nv + row):=by
 have e1 : (4 * nv + row) / 4 = nv:=(by omega);have e2 : (4 * nv + row) % 4 = row:=(by omega);have e3 : (4 * (nv + row) + row) % 16 = 4 * ((nv + row) % 4) + row:=(by omega);rw [Aes.sh,e1,e2,e3]
theorem Lx (b : List UInt8) (last : Bool) (G : Nat→UInt8) (nv : Nat) : bm (a8 (od b last) G 16 (4 * nv)) (4 * nv) ((oe b last nv).map ah) = a8 (od b last) G 16 (4 * (nv + 1)):=by
 have e : (oe b last nv).map ah = [bV (od b last (4 * nv)),bV (od b last (4 * nv + 1)),bV (od b last (4 * nv + 1 + 1)),bV (od b last (4 * nv + 1 + 1 + 1))]:=rfl;rw [e];simp only [bm];rw [dH _ _ _ _ _ rfl,dH _ _ _ _ _ rfl,dH _ _ _ _ _ rfl,dH _ _ _ _ _ rfl];rfl
theorem Qj : ([AV.v (.int .u8 0),AV.v (.int .u8 0),AV.v (.int .u8 0),AV.v (.int .u8 0),AV.v (.int .u8 0),AV.v (.int .u8 0),AV.v (.int .u8 0),AV.v (.int .u8 0),AV.v (.int .u8 0),AV.v (.int .u8 0),AV.v (.int .u8 0),AV.v (.int .u8 0),AV.v (.int .u8 0),AV.v (.int .u8 0),AV.v (.int .u8 0),AV.v (.int .u8 0)] : List AV) = List.replicate 16 (bV 0):=rfl
theorem z4 : ([AV.v (.int .u8 0),AV.v (.int .u8 0),AV.v (.int .u8 0),AV.v (.int .u8 0)] : List AV) = List.replicate 4 (bV 0):=rfl
theorem AZ (i : Nat) (h : i < 1000) : iF .i64 4 (i : Int) = ((4 * i : Nat) : Int):=by
 rw [dJ (by omega)];omega
theorem yn (b : List UInt8) (hb : b.length = 16) (last : Bool) (s : AS) :
  ai prog Γ 242 [.agg (b.map ah),.agg (Aes.sb.map ah),.v (.bool last)] s (fun r s'=>r = .agg ((Aes.GX b last).map ah)∧s' = s):=by
 refine aa func242 rfl ntmps242 results242 (by simp) ?_;have FP : (b.map ah).length = 16:=(by rw [List.length_map,hb]);have tb : (Aes.sb.map ah).length = 256:=(by rw [List.length_map,Aes.qZ]);refine jQ fun K hK=>?_;intro o3 zl o4 B4;obtain ⟨OC,uc⟩:=AS.eP B4;intro o6 IQ;obtain ⟨h64,CJ,Yi⟩:=kx IQ;rw [Qj];refine hK _ _ ?_;clear hK K;refine jQ fun K hK=>?_;intro o7 Cw;obtain ⟨Q3,h74,h73,Yj⟩:=u9 Cw;rw [Qj];refine hK _ _ ?_;clear hK K;generalize me : (((s.set o3 (b.map ah)).set o4 (Aes.sb.map ah)).set o6 (List.replicate 16 (bV 0))).set o7 (List.replicate 16 (bV 0)) = s0 at *
 have j3 : s0.av o3 = some (b.map ah):=(by rw [← me,AS.ao _ h73.symm,AS.ao _ CJ.symm,AS.ao _ OC.symm,AS.ae]);have j4 : s0.av o4 = some (Aes.sb.map ah):=(by rw [← me,AS.ao _ h74.symm,AS.ao _ h64.symm,AS.ae]);have j6 : s0.av o6 = some (List.replicate 16 (bV 0)):=(by rw [← me,AS.ao _ Q3.symm,AS.ae]);have j7 : s0.av o7 = some (List.replicate 16 (bV 0)):=(by rw [← me]; exact AS.ae _ _ _);have hle : s.le s0:=(by rw [← me]; exact AS.aE (AS.aE (AS.aE (AS.aE (AS.le.refl s) zl _) uc _) Yi _) Yj _);clear me B4 IQ Cw;have rD : (List.replicate 16 (bV 0)).length = 16:=(by simp);rw [← ie (od b last) 16] at j7;generalize List.replicate 16 (bV 0) = Z at *
 refine wK fun K hK=>?_;refine jA ?_;refine ag ?_;refine aC (fun E s1=>∃ i : Nat,i≤4∧E 2 = .v (.bool last)∧E 3 = .ptr o3 0∧E 4 = .ptr o4 0∧E 6 = .ptr o6 0∧E 7 = .ptr o7 0∧E 11 = .v (.int .i64 i)∧s1.av o7 = some (a8 (od b last) (fun _=>0) 16 (4 * i))∧s1.av o3 = some (b.map ah)∧s1.av o4 = some (Aes.sb.map ah)∧s1.av o6 = some Z∧s.le s1)
  (fun E _=>match E 11 with | .v (.int _ i)=>4 - i.toNat | _=>0) ?_ ?_
 ·exact ⟨0,by omega,by simp only [aF,bz,Nc,↓reduceIte]; rfl,rfl,rfl,rfl,rfl,rfl,j7,j3,j4,j6,hle⟩
 ·clear j3 j4 j6 j7 hle;rintro E1 s1 ⟨i,hi,e2,e3,e4,e6,e7,vy,j7,j3,j4,j6,hle⟩ -
  by_cases aX : i < 4
  ·have fu : (i : Int) < 4:=(by omega);refine jB (Ai @vy (decide_eq_true fu)) ?_;refine wK fun K2 aV=>?_;refine jE ?_;refine ab ?_;refine aV _ _ ?_;clear aV K2;refine wK fun K3 br=>?_;refine ag ?_;refine jB @vy ?_;refine jQ fun K hK=>?_;intro o9 Ly;rw [z4];refine hK _ _ ?_;clear hK K;have Yk : o9≠o3:=(fun e=>by rw [e,j3] at Ly; cases Ly);have Yl : o9≠o4:=(fun e=>by rw [e,j4] at Ly; cases Ly);have n96 : o9≠o6:=(fun e=>by rw [e,j6] at Ly; cases Ly);have Ym : o9≠o7:=(fun e=>by rw [e,j7] at Ly; cases Ly);have Mo : s.av o9 = none:=by
    cases h : s.av o9 with
    | none=>rfl
    | some cs=>rw [hle.av _ _ h] at Ly; cases Ly
   generalize nY : s1.set o9 (List.replicate 4 (bV 0)) = s2 at *
   have q3 : s2.av o3 = some (b.map ah):=(by rw [← nY,AS.ao _ Yk.symm]; exact j3);have q4 : s2.av o4 = some (Aes.sb.map ah):=(by rw [← nY,AS.ao _ Yl.symm]; exact j4);have q6 : s2.av o6 = some Z:=(by rw [← nY,AS.ao _ n96.symm]; exact j6);have q7 : s2.av o7 = some (a8 (od b last) (fun _=>0) 16 (4 * i)):=(by rw [← nY,AS.ao _ Ym.symm]; exact j7);have q9 : s2.av o9 = some (List.replicate 4 (bV 0)):=(by rw [← nY]; exact AS.ae _ _ _);have eQ : s.le s2:=(by rw [← nY]; exact AS.aE hle Mo _);clear nY j3 j4 j6 j7 Ly hle;rw [← ie (fun r=>Aes.sh b (4 * i + r)) 4] at q9;refine wK fun K hK=>?_;refine jA ?_;refine ag ?_;refine aC (fun E s3=>∃ r : Nat,r≤4∧E 2 = .v (.bool last)∧E 3 = .ptr o3 0∧E 4 = .ptr o4 0∧E 6 = .ptr o6 0∧E 7 = .ptr o7 0∧E 8 = .v (.int .i64 i)∧E 9 = .ptr o9 0∧E 11 = .v (.int .i64 i)∧E 14 = .v (.int .i64 r)∧s3.av o9 = some (a8 (fun r=>Aes.sh b (4 * i + r)) (fun _=>0) 4 r)∧s3.av o7 = some (a8 (od b last) (fun _=>0) 16 (4 * i))∧s3.av o3 = some (b.map ah)∧s3.av o4 = some (Aes.sb.map ah)∧s3.av o6 = some Z∧s.le s3)
    (fun E _=>match E 14 with | .v (.int _ i)=>4 - i.toNat | _=>0) ?_ ?_
   ·exact ⟨0,by omega,e2,e3,e4,e6,e7,rfl,rfl,vy,rfl,q9,q7,q3,q4,q6,eQ⟩
   ·clear q3 q4 q6 q7 q9 eQ;rintro E4 s3 ⟨r,hr,g2,g3,g4,g6,g7,g8,g9,g11,g14,q9,q7,q3,q4,q6,eQ⟩ -
    by_cases Bc : r < 4
    ·have p6 : (r : Int) < 4:=(by omega);refine jB (Ai @g14 (decide_eq_true p6)) ?_;refine wK fun K6 kV=>?_;refine jE ?_;refine ab ?_;refine kV _ _ ?_;clear kV K6;refine wK fun K7 GJ=>?_;refine ag ?_;refine jB @g14 ?_;have ck:=dH (fun r=>Aes.sh b (4 * i + r)) (fun _=>0) 4 r _ rfl;rw [← Yh b i r Bc] at ck;have hlen:=da (fun r=>Aes.sh b (4 * i + r)) (fun _=>0) 4 r;have a0:=fD i r (by omega);have a1:=AZ (i + r) (by omega);have a2:=fD (4 * (i + r)) r (by omega);have a3:=Yg (4 * (i + r) + r);have db:=de (l:=b) ((4 * (i + r) + r) % 16) (by omega);have k0 : (0 : Int)≤(((4 * (i + r) + r) % 16 : Nat) : Int):=(by omega);have k1 : (((4 * (i + r) + r) % 16 : Nat) : Int) < ((16 : Nat) : Int):=(by omega);generalize (4 * (i + r) + r) % 16 = m at *
     have hm:=(b.getD m 0).toNat_lt;have ds:=de (l:=Aes.sb) (b.getD m 0).toNat (by rw [Aes.qZ]; omega);rw [show Aes.sb.getD (b.getD m 0).toNat 0 = Aes.S (b.getD m 0) from rfl] at ds;generalize Aes.S (b.getD m 0) = y at *
     generalize b.getD m 0 = x at *
     have k2 : (0 : Int)≤((x.toNat : Nat) : Int):=(by omega);have k3 : ((x.toNat : Nat) : Int) < ((256 : Nat) : Int):=(by omega);have Et : (0 : Int)≤(r : Int):=(by omega);have p5 : (r : Int) < ((4 : Nat) : Int):=(by omega);generalize F1 : a8 (fun r=>Aes.sh b (4 * i + r)) (fun _=>0) 4 (r + 1) = R' at *
     generalize a8 (fun r=>Aes.sh b (4 * i + r)) (fun _=>0) 4 r = R at *
     generalize hY1 : b.map ah = Y1 at *
     generalize Zm : Aes.sb.map ah = Y2 at *
     refine wE fun K hK=>?_;simp only [↓DN,Qa,Qb,Qc,Qd,Qe,Qf,Qg,Qh,reduceCtorEq,↓reduceIte,Na,Nb,Nc,Nk,Nf,Ng,Nh,Za,Zb,Zc,TT,g3,g4,g8,g9,g14,Et,p6,p5,k0,k1,k2,k3,db,ds,a0,a1,a2,a3,ri,Yk,Yk.symm,Yl,Yl.symm,OC,OC.symm,q3,q4,q9,ah,ck,hlen,FP,tb];refine ⟨by omega,hK _ _ ?_⟩;clear hK K;simp only [ar,az,if_true,if_false];refine GJ _ _ ?_;clear GJ K7;refine jD (Ai @g14 (cE r (by omega))) ?_;refine ⟨⟨r + 1,by omega,g2,g3,g4,g6,g7,g8,g9,g11,rfl,by rw [F1]; exact AS.ae _ _ _,by rw [AS.ao _ Ym.symm]; exact q7,by rw [AS.ao _ Yk.symm,q3],by rw [AS.ao _ Yl.symm,q4],by rw [AS.ao _ n96.symm]; exact q6,AS.aE eQ Mo _⟩,?_⟩;simp only [g14,aF,↓reduceIte];omega
    ·have p6 : ¬ (r : Int) < 4:=(by omega);obtain rfl : r = 4:=(by omega);refine jB (Ai @g14 (decide_eq_false p6)) ?_;refine wK fun K6 kV=>?_;refine jF ?_;refine aA ?_;simp only [az,ar,if_true];clear kV K6;refine hK _ _ ?_;clear hK K;rw [fq,show (List.range 4).map (fun r=>Aes.sh b (4 * i + r)) = um b i from rfl] at q9;refine wK fun K hK=>?_;have Qk : ∀ (E5 : Env) (s4 : AS),E5 2 = .v (.bool last)→E5 3 = .ptr o3 0→E5 4 = .ptr o4 0→E5 6 = .ptr o6 0→E5 7 = .ptr o7 0→E5 8 = .v (.int .i64 i)→E5 9 = .ptr o9 0→E5 11 = .v (.int .i64 i) →
       s4.av o9 = some ((oe b last i).map ah)→s4.av o7 = some (a8 (od b last) (fun _=>0) 16 (4 * i))→s4.av o3 = some (b.map ah)→s4.av o4 = some (Aes.sb.map ah)→s4.av o6 = some Z→s.le s4→K E5 s4:=by
      intro E5 s4 f2 f3 f4 f6 f7 f8 f9 f11 t9 t7 t3 t4 t6 ib;refine hK _ _ ?_;clear hK K;have QB:=Lx b last (fun _=>0) i;have eV : ((oe b last i).map ah).length = 4:=(by simp [oe]);have bR:=cd (oe b last i);have dN : List.take 4 ((oe b last i).map ah) = (oe b last i).map ah:=List.take_of_length_le (by omega);have oW:=da (od b last) (fun _=>0) 16 (4 * i);generalize hC : (oe b last i).map ah = C at *
      generalize hF' : a8 (od b last) (fun _=>0) 16 (4 * (i + 1)) = F' at *
      generalize a8 (od b last) (fun _=>0) 16 (4 * i) = F at *
      have a1:=AZ i (by omega);have l0 : (0 : Int)≤((4 * i : Nat) : Int):=(by omega);have l1 : ((4 * i : Nat) : Int)≤((16 : Nat) : Int):=(by omega);have l2 : ¬ (((16 : Nat) : Int) = ((4 * i : Nat) : Int)):=(by omega);have l3 : min 4 (16 - 4 * i) = 4:=(by omega);refine fe T.mixed [4] (by kernel_rfl) ?_;intro K hK;refine jN (Ai @f7 (Ai @f8 (Ai @f9 (Ai @a1 (Ai @l0 (Ai @l1 (Ai @l2 (Ai @l3 (Ai (show ((16 : Nat) : Int)≤((16 : Nat) : Int) from by decide) (Ai (show (0 : Int)≤((4 : Nat) : Int) from by decide) (Ai (show ((4 : Nat) : Int)≤((4 : Nat) : Int) from by decide) (Ai (show ¬ (((4 : Nat) : Int) = 0) from by decide) (Ai @t9 (Ai @t7 (Ai @eV (Ai @bR (Ai @dN (Ai @oW (Ai @QB (Ai @Ym @Ym.symm)))))))))))))))))))) ?_;refine ⟨by omega,hK _ _ ?_⟩;clear hK K;simp only [ar,az,if_true,if_false];refine br _ _ ?_;clear br K3;refine jD (Ai @f11 (cE i (by omega))) ?_;refine ⟨⟨i + 1,by omega,f2,f3,f4,f6,f7,rfl,by rw [hF']; exact AS.ae _ _ _,by rw [AS.ao _ h73.symm]; exact t3,by rw [AS.ao _ h74.symm]; exact t4,by rw [AS.ao _ Q3.symm]; exact t6,AS.aE ib Yj _⟩,?_⟩;simp only [vy,aF,↓reduceIte];omega
     clear hK br;cases last with
     | true =>
      rw [Iy b i aX] at q9;refine jB @g2 ?_;refine jF ?_;refine ab ?_;exact Qk _ _ g2 g3 g4 g6 g7 g8 g9 g11 q9 q7 q3 q4 q6 eQ
     | false =>
      have Yn : (vI (um b i)).map ah = (oe b false i).map ah:=(by rw [F2 b i aX]);have vj : ((um b i).map ah).length = 4:=(by simp [um]);have hpc:=Ch (Γ:=Γ) (um b i) (by simp [um]) s3;have hpk : List.take 4 ((um b i).map ah) = (um b i).map ah:=List.take_of_length_le (by omega);rw [Yn] at hpc;have eV : ((oe b false i).map ah).length = 4:=(by simp [oe]);have bR:=cd (oe b false i);generalize hC : (oe b false i).map ah = C at *
      generalize (um b i).map ah = Pc at *
      refine jB @g2 ?_;refine jE ?_;refine jU (Ai @g9 (Ai @q9 (Ai @vj @hpk))) fun K hK=>?_;refine ad hpc ?_;rintro r5 s5 ⟨rfl,rfl⟩;refine jN (Ai @g9 (Ai @q9 (Ai @vj (Ai @eV @bR)))) ?_;rw [bA Pc C (by omega)];refine hK _ _ ?_;clear hK K;exact Qk _ _ g2 g3 g4 g6 g7 g8 g9 g11 (AS.ae _ _ _) (by rw [AS.ao _ Ym.symm]; exact q7) (by rw [AS.ao _ Yk.symm]; exact q3) (by rw [AS.ao _ Yl.symm]; exact q4) (by rw [AS.ao _ n96.symm]; exact q6) (AS.aE eQ Mo _)
  ·have fu : ¬ (i : Int) < 4:=(by omega);obtain rfl : i = 4:=(by omega);refine jB (Ai @vy (decide_eq_false fu)) ?_;refine wK fun K2 aV=>?_;refine jF ?_;refine aA ?_;simp only [az,ar,if_true];clear aV K2;refine hK _ _ ?_;clear hK K;rw [show 4 * 4 = 16 from rfl,fq,show (List.range 16).map (od b last) = Aes.GX b last from lg (Aes.Cb b last)] at j7;have yC : ((Aes.GX b last).map ah).length = 16:=(by rw [List.length_map,Aes.Cb]);have bR:=cd (Aes.GX b last);have dN : List.take 16 ((Aes.GX b last).map ah) = (Aes.GX b last).map ah:=List.take_of_length_le (by omega);generalize (Aes.GX b last).map ah = X at *
   refine jS (Ai @e6 (Ai @e7 (Ai @j6 (Ai @j7 (Ai @yC (Ai @dN (Ai @bR (Ai @Q3 @Q3.symm)))))))) fun K hK=>?_;rw [bA Z X (by omega)];refine ⟨by omega,hK _ _ ?_⟩;clear hK K;refine aW ?_;refine ev (v:=.agg X) (o:=o6) (off:=0) e6 (AS.ae _ _ _) (by rw [T.JI]; decide) (by simp only [↓DN,Qa,Qb,Qc,Qd,Qe,Qf,Qg,Qh,reduceCtorEq,↓reduceIte,Na,Nb,Nc,Nk,Nf,Ng,Nh,Za,Zb,Zc,TT,yC,dN]) ?_;exact ⟨_,s,AV.aB.refl _,AS.aE hle Yi _,rfl,rfl⟩
theorem z167 : bg prog 254 = some (List.replicate 176 (bV 0)):=by kernel_rfl
theorem yo (F G : Nat→UInt8) (N : Nat) : ∀ (xs : List UInt8) (i : Nat),(∀ k,k < xs.length→xs.getD k 0 = F (i + k))→bm (a8 F G N i) i (xs.map ah) = a8 F G N (i + xs.length)
  | [],i,_=>by simp [bm]
  | x :: xs,i,h=>by
    have h0:=h 0 (by simp);simp only [List.getD_cons_zero,Nat.add_zero] at h0;rw [List.map_cons,bm,show ah x = bV x from rfl,dH F G N i x h0,yo F G N xs (i + 1) (fun k hk=>by
      have:=h (k + 1) (by simp; omega);rw [List.getD_cons_succ] at this;rw [this]; congr 1; omega)]
    simp only [List.length_cons];congr 1;omega
def lO (key : List UInt8) : List UInt8:=(List.range 176).map (Aes.ak key)
theorem A0 (key : List UInt8) : (lO key).length = 176:=by simp [lO]
theorem A1 (key : List UInt8) (hk : key.length = 16) (G : Nat→UInt8) (q m : Nat) (hq : q < 11) (hm : (q + 1) * 16≤m) : List.take 16 (List.drop (q * 16) (a8 (Aes.ak key) G 176 m)) = (Aes.kr key q).map ah:=by
  have hl:=Aes.re hk q;apply List.ext_getElem
  · simp [a8,hl]; omega
  · intro k h1 h2;have LA : k < 16:=(by simpa [hl] using h2);simp only [List.getElem_take,List.getElem_drop,a8,List.getElem_map,List.getElem_range];rw [if_pos (by omega),Aes.ak,show (q * 16 + k) / 16 = q by omega,show (q * 16 + k) % 16 = k by omega];simp [List.getElem?_eq_getElem (show k < (Aes.kr key q).length by omega)]
def Cx (key : List UInt8) (q n : Nat) : UInt8:=if n = (q + 1) * 16 then Aes.ak key n ^^^ Aes.IP q else Aes.ak key n
theorem OD (key : List UInt8) (hk : key.length = 16) (q i : Nat) (hi : i < 4) : (Aes.kr key q).getD i 0 ^^^ Aes.S ((Aes.kr key q).getD (12 + (i + 1) % 4) 0) = Cx key q ((q + 1) * 16 + i):=by
  have hl:=Aes.R5 hk q i hi;have e1 : Aes.ak key (16 * q + i) = (Aes.kr key q).getD i 0:=(by rw [Aes.ak,show (16 * q + i) / 16 = q by omega,show (16 * q + i) % 16 = i by omega]);have e2 : Aes.ak key (16 * q + (12 + (i + 1) % 4)) = (Aes.kr key q).getD (12 + (i + 1) % 4) 0:=(by rw [Aes.ak,show (16 * q + (12 + (i + 1) % 4)) / 16 = q by omega,show (16 * q + (12 + (i + 1) % 4)) % 16 = 12 + (i + 1) % 4 by omega]);rw [e1,e2] at hl;rw [Cx,show (q + 1) * 16 + i = 16 * (q + 1) + i by omega];by_cases h0 : i = 0
  · rw [if_pos h0] at hl;rw [if_pos (by omega),hl,UInt8.xor_assoc,UInt8.xor_self,UInt8.xor_zero]
  · rw [if_neg h0] at hl;rw [if_neg (by omega),hl]
theorem LB (key : List UInt8) (G : Nat→UInt8) (q : Nat) : a8 (Cx key q) G 176 ((q + 1) * 16) = a8 (Aes.ak key) G 176 ((q + 1) * 16):=by
  unfold a8;apply List.map_congr_left;intro n _;by_cases h : n < (q + 1) * 16
  · rw [if_pos h,if_pos h,Cx,if_neg (by omega)]
  · rw [if_neg h,if_neg h]
theorem OE (key : List UInt8) (G : Nat→UInt8) (q : Nat) (hq : q < 10) : (a8 (Cx key q) G 176 ((q + 1) * 16 + 4)).set ((q + 1) * 16) (bV (Cx key q ((q + 1) * 16) ^^^ Aes.IP q)) = a8 (Aes.ak key) G 176 ((q + 1) * 16 + 4):=by
  have e : Cx key q ((q + 1) * 16) ^^^ Aes.IP q = Aes.ak key ((q + 1) * 16):=by
    rw [Cx,if_pos rfl,UInt8.xor_assoc,UInt8.xor_self,UInt8.xor_zero]
  rw [e];apply List.ext_getElem?;intro k;by_cases h : k = (q + 1) * 16
  · subst h;rw [List.getElem?_set_self (by rw [da]; omega)];simp only [a8,List.getElem?_map];rw [List.getElem?_range (by omega)];simp only [Option.map_some];rw [if_pos (by omega)];rfl
  · rw [List.getElem?_set_ne (by omega)];simp only [a8,List.getElem?_map];by_cases hk : k < 176
    · rw [List.getElem?_range hk];simp only [Option.map_some];rw [Cx,if_neg h]
    · rw [List.getElem?_eq_none (by simp; omega)];rfl
theorem Iz (key : List UInt8) (hk : key.length = 16) (q i : Nat) (h4 : 4≤i) (hi : i < 16) : (Aes.kr key q).getD i 0 ^^^ Aes.ak key ((q + 1) * 16 + (i - 4)) = Aes.ak key ((q + 1) * 16 + i):=by
  have hl:=Aes.Of hk q i h4 hi;have e1 : Aes.ak key (16 * q + i) = (Aes.kr key q).getD i 0:=(by rw [Aes.ak,show (16 * q + i) / 16 = q by omega,show (16 * q + i) % 16 = i by omega]);rw [e1] at hl;rw [show (q + 1) * 16 + i = 16 * (q + 1) + i by omega,show (q + 1) * 16 + (i - 4) = 16 * (q + 1) + (i - 4) by omega,hl]
theorem Yo (m : Nat) (h : m < 1000) : dP .i64 12 (m : Int) = ((12 + m : Nat) : Int):=by
  rw [eE (by omega)];omega
theorem xbE (x : UInt8) : Aes.sb.getD x.toNat 0 = Aes.S x:=rfl
end Go.Proofs.YtbiefppedlodiaaGreatDoor
