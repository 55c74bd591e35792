/- Contracts of functions, each walked once; each theorem states its conditions. -/
import Derived.Test.YtbiefppedlodiaaGreatDoorAMp6
import Derived.Test.YtbiefppedlodiaaGreatDoorW1
import Derived.Test.YtbiefppedlodiaaGreatDoorW4
import Derived.Test.YtbiefppedlodiaaGreatDoorW3
import Derived.Test.YtbiefppedlodiaaGreatDoorAMp7
import Derived.Test.YtbiefppedlodiaaGreatDoorW2
import Derived.Test.YtbiefppedlodiaaGreatDoorAMp5
import Derived.Test.YtbiefppedlodiaaGreatDoorAMp4
set_option linter.unusedSimpArgs false
set_option linter.unusedVariables false
open Nat renaming reduceLT → Na, reduceLeDiff → Nb, reduceEqDiff → Nc, reduceAdd → Nk, reduceMul → Nf, reducePow → Ng, reduceSub → Nh, reduceBEq → Nz
open Int renaming reduceLT → Za, reduceLE → Zb, reduceToNat → Zc
open And renaming intro → Ai
open Go.AM renaming ashift → Qa, aconv → Qb, aindexAddr → Qc, aindex → Qd, aslice → Qe, abuiltin → Qf, awp_reg_seq → wS, awp_reg_end → wE, awp_seq_k → wK, awp_cond_k → wC
open Go.AM.AV renaming cells → Qg, one → Qh
set_option maxRecDepth 100000
set_option maxHeartbeats 8000000
namespace Go.Proofs.YtbiefppedlodiaaGreatDoor
open Go Go.AM Go.Proofs Tryz
variable {Γ : Nat→List AV}
def zw (number : Int) (N : ao) : List UInt8:=1 :: (be 4 number.toNat ++ N.text)
def xB (N : ao) (l r : List UInt8) : List UInt8:=2 :: (N.text ++ (l ++ r))
def tZ (N : ao) (b : List UInt8) : List UInt8:=3 :: (be 8 N.key ++ ((be 1 N.parent.length ++ N.parent) ++ b))
def zx (number : Int) (N : ao) : List UInt8:=if N.right∧0≤number∧number < 32 then Sha.sum (zw number N) else []
def oo (N : ao) (l r : List UInt8) : List UInt8:=if N.right then Sha.sum (xB N l r) else []
def qH (N : ao) (b : List UInt8) : List UInt8:=if N.right∧N.kind = 2 then Sha.sum (tZ N b) else []
theorem A9 (number : Int) (N : ao) (hr : N.right) (h0 : 0≤number) (h1 : number < 4294967296) : dD N (bf 4 number ([1],false)) = (zw number N,false):=by
 unfold dD bf;rw [if_pos hr,if_pos ⟨h0,by omega⟩];simp [dN,cx,zw]
theorem DH (number : Int) (N : ao) (h : ¬ (N.right∧0≤number∧number < 4294967296)) : (dD N (bf 4 number ([1],false))).2 = true:=by
 unfold dD;by_cases hr : N.right
 ·rw [if_pos hr];have : ¬ (0≤number∧number < 2 ^ (8 * 4)):=fun e=>h ⟨hr,e.1,by have:=e.2; omega⟩;unfold bf;rw [if_neg this];rfl
 ·rw [if_neg hr]
theorem wv (N : ao) (st : List UInt8 × Bool) : (dD N st).1.length≤st.1.length + 100:=by
 unfold dD;split
 ·rename_i hr;have:=ao.nf hr;have:=eT N.text st;omega
 ·simp only; omega
theorem zy (ev : Γ 0 = ew Sha.H0) (hG : Γ 1 = Sha.K.map wV) (number : Int) (hn : -9223372036854775808≤number∧number≤9223372036854775807) (N : ao) (hl : N.kY.length≤2 ^ 61) (s : AS) :
  ah prog Γ 201 [.v (.int .i64 number),.agg N.cells] s (fun r s'=>r = aj (zx number N) .any∧s' = s):=by
 refine ab func201 rfl ntmps201 results201 (by simp) ?_;have gy:=fun s0 s p hp=>A8 (Γ:=Γ) number hn N hl s0 s p ([1],false) (by decide) hp;have hlen : (dD N (bf 4 number ([1],false))).1.length≤2 ^ 45:=by
  have h1:=wv N (bf 4 number ([1],false));have h2:=eS 4 number ([1],false);simp only [List.length_cons,List.length_nil] at h2;omega
 have Sh:=fun s=>lQ (Γ:=Γ) 1 (by decide) _ _ PM _ gy hlen s;have lM:=A9 number N;have kN:=DH number N;have hD : zx number N = if N.right∧0≤number∧number < 32 then Sha.sum (zw number N) else []:=rfl
 have hBl : N.right→(zw number N).length≤105:=(fun hr=>by have:=ao.nf hr; simp [zw]; omega);clear gy;generalize dD N (bf 4 number ([1],false)) = F at *
 generalize zx number N = D at *
 generalize zw number N = B at *
 unfold ao.cells at *
 refine fX 2 3 (by decide) (by decide) (by decide) ?_;intro K hK;refine jN @aR.eq_1 ?_;intro o1 h1 o2 h2;refine hK _ _ o1 o2 _ _ rfl rfl h1 (by rw [AS.hM]; exact h2) ?_;clear hK K h1 h2;refine jS @aR.eq_1 fun K hK=>?_;refine ad (Sh _) ?_;rintro r s1 ⟨rfl,rfl⟩;by_cases hg : N.right∧0≤number∧number < 4294967296
 ·have hF:=lM hg.1 hg.2.1 hg.2.2;rw [hF];refine jR hK ?_;clear hK K;refine wK fun K hK=>?_;by_cases l6 : number < 32
  ·refine jB (decide_eq_false (show ¬ (32 : Int)≤number by omega)) ?_;refine jF ?_;refine ag ?_;refine hK _ _ ?_;clear hK K;have Sj : D = Sha.sum B:=(by rw [hD,if_pos ⟨hg.1,hg.2.1,l6⟩]);have HX:=hBl hg.1;have I5:=kZ (Γ:=Γ) ev hG [B] .new (by simp) (by simp; omega) s1;rw [show [B].flatten = B from by simp,← Sj] at I5;refine wS fun K hK=>?_;simp only [↓DN,Qa,Qb,Qc,Qd,Qe,Qf,Qg,Qh,reduceCtorEq,↓reduceIte,Na,Nb,Nc,Nk,Nf,Ng,Nh,Za,Zb,Zc,TT,List.replicate_one];refine ad I5 ?_;intro r s2 bu;have uu : D.length = 32:=(by rw [Sj]; exact Sha.dQ B);have hw:=bu.aA;have hle:=bu.1;obtain ⟨t,e,rfl⟩:=ct bu (by rw [← List.length_pos_iff,uu]; decide);refine jR hK ?_;clear hK K;refine jI ?_;exact ⟨_,s1,hw,hle,rfl,rfl⟩
  ·refine jB (decide_eq_true (show (32 : Int)≤number by omega)) ?_;refine jE ?_;refine jA ?_;refine jI ?_;refine ⟨aj [] .any,_,AV.aJ,AS.le.refl _,?_,rfl⟩;rw [hD,if_neg (fun h=>l6 h.2.2)];rfl
 ·have hF:=kN hg;rw [hF];refine jR hK ?_;clear hK K;refine wK fun K hK=>?_;refine jA ?_;refine jE ?_;refine jA ?_;refine jI ?_;refine ⟨aj [] .any,_,AV.aJ,AS.le.refl _,?_,rfl⟩;rw [hD,if_neg (fun h=>hg ⟨h.1,h.2.1,by omega⟩)];rfl
theorem HY (a b c : List UInt8) : gu [a,b,c] = [aj a .any,aj b .any,aj c .any]:=rfl
theorem HZ (a b : List UInt8) : gu [a,b] = [aj a .any,aj b .any]:=rfl
theorem vq (ev : Γ 0 = ew Sha.H0) (hG : Γ 1 = Sha.K.map wV) (N : ao) (hl : N.kY.length≤2 ^ 61) (x y : List UInt8) (Wg : x.length + y.length≤2 ^ 30) (s : AS) :
  ah prog Γ 202 [.agg N.cells,aj x .any,aj y .any] s (fun r s'=>r = aj (oo N x y) .any∧s' = s):=by
 refine ab func202 rfl ntmps202 results202 (by simp) ?_;have gy:=fun s0 s p hp=>xf (Γ:=Γ) N hl s0 s p ([2],false) (by decide) hp;have hlen : (dD N ([2],false)).1.length≤2 ^ 45:=by
  have h1:=wv N ([2],false);simp only [List.length_cons,List.length_nil] at h1;omega
 have Sh:=fun s=>lQ (Γ:=Γ) 2 (by decide) _ _ PN _ gy hlen s;have hD : oo N x y = if N.right then Sha.sum (xB N x y) else []:=rfl
 have hB : xB N x y = (2 :: N.text) ++ (x ++ y):=rfl;have hT:=fun hr=>ao.nf (N:=N) hr;have lM : N.right→dD N ([2],false) = (2 :: N.text,false):=(fun hr=>by unfold dD; rw [if_pos hr]; rfl);have kN : ¬ N.right→(dD N ([2],false)).2 = true:=(fun hr=>by unfold dD; rw [if_neg hr]);clear gy;generalize dD N ([2],false) = F at *
 generalize oo N x y = D at *
 generalize xB N x y = B at *
 have Uh : N.right→(2 :: N.text).length≤101:=(fun hr=>by have:=hT hr; simp; omega);generalize (2 :: N.text) = pre at *
 unfold ao.cells at *
 refine aU 3 (by simp [bU]) ?_;intro K hK;refine jN @aR.eq_1 ?_;intro o ho;refine hK _ _ o _ rfl ho ?_;clear hK K ho;refine jS @aR.eq_1 fun K hK=>?_;refine ad (Sh _) ?_;rintro r s1 ⟨rfl,rfl⟩;by_cases hg : N.right
 ·rw [lM hg];refine jR hK ?_;clear hK K;refine wK fun K hK=>?_;refine jA ?_;refine jF ?_;refine ag ?_;refine hK _ _ ?_;clear hK K;have Sj : D = Sha.sum B:=(by rw [hD,if_pos hg]);have GF:=Uh hg;have I5:=kZ (Γ:=Γ) ev hG [pre,x,y] .new (by simp) (by simp; omega) s1;rw [show [pre,x,y].flatten = B from by rw [hB]; simp,← Sj,HY] at I5;refine wS fun K hK=>?_;simp only [↓DN,Qa,Qb,Qc,Qd,Qe,Qf,Qg,Qh,reduceCtorEq,↓reduceIte,Na,Nb,Nc,Nk,Nf,Ng,Nh,Za,Zb,Zc,TT,List.replicate_succ,List.replicate_zero];refine ad I5 ?_;intro r s2 bu;have uu : D.length = 32:=(by rw [Sj]; exact Sha.dQ B);have hw:=bu.aA;have hle:=bu.1;obtain ⟨t,e,rfl⟩:=ct bu (by rw [← List.length_pos_iff,uu]; decide);refine jR hK ?_;clear hK K;refine jI ?_;exact ⟨_,s1,hw,hle,rfl,rfl⟩
 ·rw [kN hg];refine jR hK ?_;clear hK K;refine wK fun K hK=>?_;refine jA ?_;refine jE ?_;refine jA ?_;refine jI ?_;refine ⟨aj [] .any,_,AV.aJ,AS.le.refl _,?_,rfl⟩;rw [hD,if_neg hg];rfl
theorem vr (ev : Γ 0 = ew Sha.H0) (hG : Γ 1 = Sha.K.map wV) (N : ao) (hl : N.kY.length≤2 ^ 61) (x : List UInt8) (hx : x.length≤2 ^ 30) (s : AS) :
  ah prog Γ 113 [.agg N.cells,aj x .any] s (fun r s'=>r = aj (qH N x) .any∧s' = s):=by
 refine ab func113 rfl ntmps113 results113 (by simp) ?_;have hD : qH N x = if N.right∧N.kind = 2 then Sha.sum (tZ N x) else []:=rfl
 have hB : tZ N x = (3 :: (be 8 N.key ++ (be 1 N.parent.length ++ N.parent))) ++ x:=(by simp [tZ]);have Ui:=fun s=>kD (Γ:=Γ) N hl s;have Nt : N.right→N.kind = 2→N.key < 2 ^ 64∧N.parent.length≤32:=by
  intro hr hk;have : N.held:=by
   unfold ao.right at hr;rw [hk] at hr;simp at hr;exact hr.2.1
  obtain ⟨_,h2,h3⟩:=this;exact ⟨by omega,by omega⟩
 have gy:=fun hk hp s0 s p hq=>xg (Γ:=Γ) N hk hp s0 s p ([3],false) (by decide) hq;have hF : N.right→N.kind = 2→dj 1 N.parent (dN 8 N.key ([3],false)) = (3 :: (be 8 N.key ++ (be 1 N.parent.length ++ N.parent)),false):=by
  intro hr hk;have:=(Nt hr hk).2;unfold dj bf;rw [if_pos ⟨by omega,by omega⟩];simp [dN,cx]
 generalize dj 1 N.parent (dN 8 N.key ([3],false)) = F at *
 have Uh : N.right→N.kind = 2→(3 :: (be 8 N.key ++ (be 1 N.parent.length ++ N.parent))).length≤100:=(fun hr hk=>by have:=(Nt hr hk).2; simp; omega);generalize (3 :: (be 8 N.key ++ (be 1 N.parent.length ++ N.parent))) = pre at *
 generalize qH N x = D at *
 generalize tZ N x = B at *
 unfold ao.cells at *
 obtain ⟨k,m,y,pa,u⟩:=N;simp only at *
 refine aU 2 (by simp [bU]) ?_;intro K hK;refine jN @aR.eq_1 ?_;intro o ho;refine hK _ _ o _ rfl ho ?_;clear hK K ho;refine wK fun K hK=>?_;by_cases hk : k = 2
 ·refine jS (Ai @aR.eq_1 (rr hk)) fun K hK=>?_;refine ad (Ui _) ?_;rintro r s1 ⟨rfl,rfl⟩;by_cases hg : ao.right ⟨k,m,y,pa,u⟩
  ·rw [decide_eq_true hg];refine jR hK ?_;clear hK K;refine jF ?_;refine ag ?_;refine hK _ _ ?_;clear hK K;obtain ⟨q1,q2⟩:=Nt hg hk;have hFF:=hF hg hk;have GF:=Uh hg hk;have Sh:=fun s=>lQ (Γ:=Γ) 3 (by decide) _ _ PO _ (gy q1 (by omega)) (by rw [hFF]; simp only; omega) s;rw [hFF] at Sh;refine jS @aR.eq_1 fun K hK=>?_;refine ad (Sh _) ?_;rintro r s2 ⟨rfl,rfl⟩;refine jR hK ?_;clear hK K;have Sj : D = Sha.sum B:=(by rw [hD,if_pos ⟨hg,hk⟩]);have I5:=kZ (Γ:=Γ) ev hG [pre,x] .new (by simp) (by simp; omega) s2;rw [show [pre,x].flatten = B from by rw [hB]; simp,← Sj,HZ] at I5;refine wS fun K hK=>?_;simp only [↓DN,Qa,Qb,Qc,Qd,Qe,Qf,Qg,Qh,reduceCtorEq,↓reduceIte,Na,Nb,Nc,Nk,Nf,Ng,Nh,Za,Zb,Zc,TT,List.replicate_succ,List.replicate_zero];refine ad I5 ?_;intro r s3 bu;have uu : D.length = 32:=(by rw [Sj]; exact Sha.dQ B);have hw:=bu.aA;have hle:=bu.1;obtain ⟨t,e,rfl⟩:=ct bu (by rw [← List.length_pos_iff,uu]; decide);refine jR hK ?_;clear hK K;refine jI ?_;exact ⟨_,s2,hw,hle,rfl,rfl⟩
  ·rw [decide_eq_false hg];refine jR hK ?_;clear hK K;refine jE ?_;refine jA ?_;refine jI ?_;refine ⟨aj [] .any,_,AV.aJ,AS.le.refl _,?_,rfl⟩;rw [hD,if_neg (fun h=>hg h.1)];rfl
 ·refine jB (Ai @aR.eq_1 (tS hk)) ?_;refine jE ?_;refine jA ?_;refine jI ?_;refine ⟨aj [] .any,_,AV.aJ,AS.le.refl _,?_,rfl⟩;rw [hD,if_neg (fun h=>hk h.2)];rfl
def iY (t : List ao) : Nat→Nat→List UInt8
 | 0,n=>zx ((n / 2 : Nat) : Int) (nd t n)
 | l + 1,n=>oo (nd t n) (iY t l (n - 2 ^ l)) (iY t l (n + 2 ^ l))
theorem vu (t : List ao) : ∀ l n,(iY t l n).length≤32
 | 0,n=>by
  unfold iY zx;split
  ·rw [Sha.dQ]; exact Nat.le_refl _
  ·simp
 | l + 1,n=>by
  unfold iY oo;split
  ·rw [Sha.dQ]; exact Nat.le_refl _
  ·simp
theorem DI (ev : Γ 0 = ew Sha.H0) (ig : Γ 1 = Sha.K.map wV) (hG : Γ 3 = fM.map pg) (t : List ao) (ht : gG t) : ∀ (l n : Nat),lv n = l→n < 63→n + 2 ^ l≤t.length→∀ s,
  ah prog Γ 165 [bA t,.v (.int .i64 n)] s (fun r s'=>r = aj (iY t l n) .any∧s' = s):=by
 intro l;induction l with
 | zero =>
  intro n hl hn hs s;refine ab func165 rfl ntmps165 results165 (by simp) ?_;have B8:=fun s=>iC (Γ:=Γ) hG (n : Int) (by omega) s;rw [BU hn hl] at B8;have hi : n < t.length:=(by have : (2 : Nat) ^ 0 = 1:=rfl; omega);have dI:=fY hi;have hH:=fun s=>zy (Γ:=Γ) ev ig ((n / 2 : Nat) : Int) (by omega) (nd t n) (ht.nd n).1 s;have kE : iY t 0 n = zx ((n / 2 : Nat) : Int) (nd t n):=rfl;rw [kE];generalize zx ((n / 2 : Nat) : Int) (nd t n) = D at *
  generalize nd t n = N at *
  unfold bA;generalize aK ao.cells t = X at *
  obtain ⟨nk,nm,ny,zh,nu⟩:=N;unfold ao.cells at dI hH;unfold aR at dI hH;have dr : (0 : Int)≤(n : Int):=(by omega);refine jA ?_;refine jK (B8 _) ?_;rintro s1 rfl;refine wK fun K hK=>?_;refine jA ?_;refine jE ?_;refine wS fun K hK=>?_;simp only [↓DN,Qa,Qb,Qc,Qd,Qe,Qf,Qg,Qh,reduceCtorEq,↓reduceIte,Na,Nb,Nc,Nk,Nf,Ng,Nh,Za,Zb,Zc,TT,tD,nh n (by omega),ax,hi,dr,dI];refine ad (hH _) ?_;rintro r s2 ⟨rfl,rfl⟩;refine jR hK ?_;clear hK K;exact jJ
 | succ l ih =>
  intro n hl hn hs s;refine ab func165 rfl ntmps165 results165 (by simp) ?_;obtain ⟨hk,hl1,Iu,BG,Lt,V4⟩:=we hn hl;have B8:=fun s=>iC (Γ:=Γ) hG (n : Int) (by omega) s;have hrc:=fun s=>mO (Γ:=Γ) hG (n : Int) (by omega) s;rw [hk] at B8 hrc;have yo : 0 < 2 ^ l:=Nat.two_pow_pos l;have TI : 2 ^ (l + 1) = 2 ^ l + 2 ^ l:=(by rw [Nat.pow_succ]; omega);have hi : n < t.length:=(by omega);have dI:=fY hi;have h1:=fun s=>ih (n - 2 ^ l) hl1 (by omega) (by omega) s;have h2:=fun s=>ih (n + 2 ^ l) Iu BG (by omega) s;have hB:=fun s=>vq (Γ:=Γ) ev ig (nd t n) (ht.nd n).1 (iY t l (n - 2 ^ l)) (iY t l (n + 2 ^ l)) (by have:=vu t l (n - 2 ^ l); have:=vu t l (n + 2 ^ l); omega) s;have kE : iY t (l + 1) n = oo (nd t n) (iY t l (n - 2 ^ l)) (iY t l (n + 2 ^ l)):=rfl;rw [kE];clear ih kE;generalize oo (nd t n) (iY t l (n - 2 ^ l)) (iY t l (n + 2 ^ l)) = D at *
  generalize iY t l (n - 2 ^ l) = H1 at *
  generalize iY t l (n + 2 ^ l) = H2 at *
  generalize nd t n = N at *
  unfold bA at *
  generalize aK ao.cells t = X at *
  obtain ⟨nk,nm,ny,zh,nu⟩:=N;unfold ao.cells at dI hB;unfold aR at dI hB;have dr : (0 : Int)≤(n : Int):=(by omega);refine jA ?_;refine jK (B8 _) ?_;rintro s1 rfl;refine wK fun K hK=>?_;refine jA ?_;refine jF ?_;refine ag ?_;refine hK _ _ ?_;clear hK K;refine jK (hrc _) ?_;rintro s2 rfl;refine bB T.mixed [6,9,10] (by kernel_rfl) ?_;intro K hK;simp only [↓DM,bL,DX,Nz,↓DN,Qa,Qb,Qc,Qd,Qe,Qf,Qg,Qh,reduceCtorEq,↓reduceIte,Na,Nb,Nc,Nk,Nf,Ng,Nh,Za,Zb,Zc,TT,ax,hi,dr,dI];refine ad (h1 _) ?_;rintro r s3 ⟨rfl,rfl⟩;refine jM ?_;refine ad (h2 _) ?_;rintro r s4 ⟨rfl,rfl⟩;refine jM ?_;refine ad (hB _) ?_;rintro r s5 ⟨rfl,rfl⟩;refine jR hK ?_;clear hK K;exact jJ
def zz (t : List ao) (x : Int) : List UInt8:=if 0≤x∧x < (t.length : Int)∧bO t then iY t (lv x.toNat) x.toNat else []
theorem Ba (ev : Γ 0 = ew Sha.H0) (ig : Γ 1 = Sha.K.map wV) (hG : Γ 3 = fM.map pg) (t : List ao) (ht : gG t) (x : Int) (s : AS) :
  ah prog Γ 114 [bA t,.v (.int .i64 x)] s (fun r s'=>r = aj (zz t x) .any∧s' = s):=by
 refine ab func114 rfl ntmps114 results114 (by simp) ?_;have hr:=fun s=>jy (Γ:=Γ) hG t ht s;have hh:=fun n hn hs s=>DI (Γ:=Γ) ev ig hG t ht (lv n) n rfl hn hs s;have lT:=ht.1;have vE : ¬ (0≤x∧x < (t.length : Int)∧bO t)→zz t x = []:=fun h=>if_neg h;have H3 : 0≤x∧x < (t.length : Int)∧bO t→zz t x = iY t (lv x.toNat) x.toNat:=fun h=>if_pos h;unfold bA at *
 generalize aK ao.cells t = X at *
 refine jA ?_;refine wK fun K hK=>?_;by_cases h0 : x < 0
 ·refine jB (decide_eq_true h0) ?_;refine jE ?_;refine jA ?_;refine jI ?_;refine ⟨_,_,AV.aJ (sz:=1),AS.le.refl _,?_,rfl⟩;rw [vE (fun k=>by omega)];rfl
 ·by_cases h1 : (t.length : Int)≤x
  ·refine jB (Ai (decide_eq_false h0) (decide_eq_true h1)) ?_;refine jE ?_;refine jA ?_;refine jI ?_;refine ⟨_,_,AV.aJ (sz:=1),AS.le.refl _,?_,rfl⟩;rw [vE (fun k=>by omega)];rfl
  ·refine jS (Ai (decide_eq_false h0) (decide_eq_false h1)) fun K hK=>?_;refine ad (hr _) ?_;rintro r s1 ⟨rfl,rfl⟩;by_cases r3 : bO t
   ·rw [decide_eq_true r3];refine jR hK ?_;clear hK K;refine jF ?_;refine ag ?_;refine hK _ _ ?_;clear hK K;obtain ⟨n,rfl⟩:=Int.eq_ofNat_of_zero_le (show 0≤x by omega);have hn : n < t.length:=(by omega);obtain ⟨iQ,oR⟩:=r3.span hn;refine jK (hh n oR iQ _) ?_;rintro s2 rfl;refine jI ?_;refine jW ⟨?_,rfl⟩;rw [H3 ⟨by omega,by omega,r3⟩,Int.toNat_natCast]
   ·rw [decide_eq_false r3];refine jR hK ?_;clear hK K;refine jE ?_;refine jA ?_;refine jI ?_;refine ⟨_,_,AV.aJ (sz:=1),AS.le.refl _,?_,rfl⟩;rw [vE (fun k=>r3 k.2.2)];rfl
theorem FO (l : List Int) (v : Int) (hl : l.length≤2 ^ 61) (s : AS) : ah prog Γ 129 [aR l .any,.v (.int .i64 v)] s (fun r s'=>r = .v (.int .i64 (cy (fun i=>v == l.getD i 0) l.length 0))∧s' = s):=by
 refine ab func129 rfl ntmps129 results129 (by simp) ?_;obtain ⟨Q,hQ⟩ : ∃ Q : Nat→Bool,Q = fun i=>v == l.getD i 0:=⟨_,rfl⟩;rw [← hQ];unfold aR;refine jA ?_;refine wK fun K hK=>?_;refine jA ?_;refine al ?_;refine aE (fun E s2=>∃ i : Nat,i≤l.length∧cy Q (l.length - i) i = cy Q l.length 0∧E 8 = .v (.int .i64 i)∧E 7 = .v (.int .i64 l.length)∧E 0 = .sl 1 l.length (l.map aV) .any∧E 1 = .v (.int .i64 v)∧s2 = s)
  (fun E _=>match E 8 with | .v (.int _ i)=>l.length - i.toNat | _=>0) ?_ ?_
 ·exact ⟨0,Nat.zero_le _,rfl,rfl,rfl,rfl,rfl,rfl⟩
 ·rintro E1 s2 ⟨i,hi,hf,g8,g7,g0,g1,rfl⟩ -
  by_cases bc : i < l.length
  ·refine jB (Ai @g8 (Ai @g7 (Ai @ax (decide_eq_true bc)))) ?_;refine wK fun K2 aW=>?_;refine jE ?_;refine ag ?_;refine aW _ _ ?_;clear aW K2;refine wK fun K3 bC=>?_;refine al ?_;have I7 : Q i = (v == l[i]):=(by rw [hQ]; simp [List.getD,bc]);obtain ⟨k',Lf⟩ : ∃ k',l.length - i = k' + 1:=⟨l.length - i - 1,by omega⟩;have D8 : l.length - (i + 1) = k':=(by omega);rw [Lf] at hf;have dI:=mr bc;have dr : (0 : Int)≤(i : Int):=(by omega);generalize l[i] = u at *
   refine jB @g8 ?_;by_cases hq : v = u
   ·have VD : Q i = true:=(by rw [I7]; exact wZ hq);refine jB (Ai @g1 (Ai @g0 (Ai @ax (Ai @bc (Ai @dr (Ai @dI (wZ hq))))))) ?_;refine jE ?_;refine jA ?_;refine jI ?_;rw [← hf,mz VD];exact jW ⟨rfl,rfl⟩
   ·have VD : Q i = false:=(by rw [I7]; exact uV hq);refine jB (Ai @g1 (Ai @g0 (Ai @ax (Ai @bc (Ai @dr (Ai @dI (uV hq))))))) ?_;refine jF ?_;refine ag ?_;simp only [aw,az,if_true,if_false];refine bC _ _ ?_;clear bC K3;refine jD (Ai @g8 (bt i (by omega))) ?_;refine ⟨⟨i + 1,by omega,by rw [D8,← hf,my VD],rfl,g7,g0,g1,rfl⟩,?_⟩;simp only [g8,aF,↓reduceIte];omega
  ·refine jB (Ai @g8 (Ai @g7 (Ai @ax (decide_eq_false bc)))) ?_;refine wK fun K2 aW=>?_;refine jF ?_;refine aC ?_;simp only [az,aw,if_true];refine hK _ _ ?_;clear hK aW K2 K;rw [show l.length - i = 0 by omega] at hf;refine jA ?_;refine jI ?_;rw [← hf];exact jW ⟨rfl,rfl⟩
theorem iK (l : List Int) (v : Int) (hl : l.length≤2 ^ 61) (s : AS) : ah prog Γ 77 [aR l .any,.v (.int .i64 v)] s (fun r s'=>r = .v (.bool (decide (v ∈ l)))∧s' = s):=by
 refine ab func77 rfl ntmps77 results77 (by simp) ?_;have hc:=fun s=>FO (Γ:=Γ) l v hl s;have ha:=yV (fun x=>v == x) l;have hm : l.any (fun x=>v == x) = decide (v ∈ l):=by
  rw [Bool.eq_iff_iff,List.any_eq_true,decide_eq_true_iff];constructor
  ·rintro ⟨x,hx,he⟩;rw [beq_iff_eq.1 he]; exact hx
  ·intro h;exact ⟨v,h,by simp⟩
 rw [hm] at ha;generalize cy (fun i=>v == l.getD i 0) l.length 0 = n at *
 refine jA ?_;refine jK (hc _) ?_;rintro s1 rfl;refine jI ?_;rw [← ha];exact jW ⟨rfl,rfl⟩
def RES (s0 : AS) (k : Nat) (cs : List AV) (L : List Int) (r : AV) (s' : AS) : Prop:=cO 1 s0 s' r (k + L.length) (cs ++ L.map aV)∧s0.le s'
theorem mD (hG : Γ 3 = fM.map pg) (t : List ao) (r3 : bO t) (skip : List Int) (VE : skip.length≤2 ^ 61) (n : Nat) (Lu : n < 63) (hi : n < t.length) (Ci : mw (n : Int) = none∨(nd t n).kind≠0)
  (s0 s : AS) (x : AV) (k : Nat) (cs : List AV) (hx : cO 1 s0 s x k cs) (hle : s0.le s) (hk : k + 33≤100000) :
  ah prog Γ 124 [bA t,.v (.int .i64 n),aR skip .any,x] s (RES s0 k cs (rl skip (nd t n) n ++ oU skip (nd t n).kY)):=by
 refine ab func124 rfl ntmps124 results124 (by simp) ?_;have B8:=fun s=>iC (Γ:=Γ) hG (n : Int) (by omega) s;have P9:=fun v s=>iK (Γ:=Γ) skip v VE s;have dI:=fY hi;have hur:=uX (r3.nd n);have uu:=uY skip (nd t n) n;have zA : rl skip (nd t n) n = if ((nd t n).kind = 1∧((n / 2 : Nat) : Int) ∉ skip)∨(nd t n).kind = 2 then [(n : Int)] else []:=rfl
 generalize rl skip (nd t n) n = SL at *
 generalize nd t n = N at *
 unfold bA;generalize aK ao.cells t = X at *
 obtain ⟨nk,nm,ny,zh,nu⟩:=N;unfold ao.cells at dI;unfold aR at dI P9 ⊢;simp only at hur zA Ci;have dr : (0 : Int)≤(n : Int):=(by omega);refine jA ?_;refine aU 9 (by decide) ?_;intro K hK;simp only [↓DM,bL,DX,Nz,↓DN,Qa,Qb,Qc,Qd,Qe,Qf,Qg,Qh,reduceCtorEq,↓reduceIte,Na,Nb,Nc,Nk,Nf,Ng,Nh,Za,Zb,Zc,TT,ax,hi,dr,dI];intro o1 h1;refine hK _ _ o1 _ rfl h1 ?_;clear hK K h1;refine wK fun K0 hK0=>?_;have h0 : ∀ (E : Env) (lf : Int) (ok : Bool),(ok = true→nk≠0)→E 0 = .sl 5 t.length X .any→E 1 = .v (.int .i64 n)→E 2 = .sl 1 skip.length (skip.map aV) .any→E 3 = x→E 9 = .dq [.v (.int .i64 nk),.sl 1 nm.length (nm.map ai) .any,.v (.int .u64 ny),.sl 1 zh.length (zh.map ai) .any,.sl 1 nu.length (nu.map aV) .any]→E 10 = .v (.int .i64 lf)→E 11 = .v (.bool ok)→K0 E s:=by
  intro E lf ok ie g0 g1 g2 g3 g9 g10 g11;refine hK0 _ _ ?_;clear hK0 K0;refine wK fun K1 gE=>?_;have h1 : ∀ (E : Env) (s1 : AS) (x1 : AV),E 1 = .v (.int .i64 n)→E 2 = .sl 1 skip.length (skip.map aV) .any→E 9 = .dq [.v (.int .i64 nk),.sl 1 nm.length (nm.map ai) .any,.v (.int .u64 ny),.sl 1 zh.length (zh.map ai) .any,.sl 1 nu.length (nu.map aV) .any]→E 3 = x1→cO 1 s0 s1 x1 (k + SL.length) (cs ++ SL.map aV)→s0.le s1→K1 E s1:=by
   clear g0 g1 g2 g3 g9 g10 g11 hx hle;intro E s1 x1 g1 g2 g9 g3 hx hle;refine gE _ _ ?_;clear gE K1;refine wK fun K2 aW=>?_;refine jB @g9 ?_;refine al ?_;refine aE (fun E s2=>∃ (i : Nat) (x2 : AV),i≤nu.length∧E 67 = .v (.int .i64 i)∧E 66 = .v (.int .i64 nu.length)∧E 65 = .sl 1 nu.length (nu.map aV) .any∧E 2 = .sl 1 skip.length (skip.map aV) .any∧E 3 = x2∧cO 1 s0 s2 x2 (k + SL.length + (oU skip (nu.take i)).length) (cs ++ SL.map aV ++ (oU skip (nu.take i)).map aV)∧s0.le s2)
    (fun E _=>match E 67 with | .v (.int _ i)=>nu.length - i.toNat | _=>0) ?_ ?_
   ·refine ⟨0,x1,Nat.zero_le _,rfl,rfl,rfl,g2,g3,?_,hle⟩;have : oU skip (nu.take 0) = []:=(by simp [oU]);rw [this];simpa using hx
   ·clear g1 g2 g9 g3 hx hle;rintro E2 s2 ⟨i,x2,bc,OR,g66,g65,g2,g3,hx,hle⟩ -
    by_cases Jf : i < nu.length
    ·refine jB (Ai @OR (Ai @g66 (Ai @ax (decide_eq_true Jf)))) ?_;refine wK fun K3 bC=>?_;refine jE ?_;refine ag ?_;refine bC _ _ ?_;clear bC K3;refine wK fun K4 ei=>?_;refine al ?_;have xdH : (0 : Int)≤(i : Int):=(by omega);have xdI:=mr Jf;have hub:=hur.2 nu[i] (List.getElem_mem Jf);have JN:=Kf (skip:=skip) Jf;have hlen:=yW skip (nu.take i);have bS : (nu.take i).length = i:=(by rw [List.length_take]; omega);generalize nu[i] = u at *
     have cW : ∀ (E : Env) (s3 : AS) (x3 : AV),E 67 = .v (.int .i64 i)→E 66 = .v (.int .i64 nu.length)→E 65 = .sl 1 nu.length (nu.map aV) .any→E 2 = .sl 1 skip.length (skip.map aV) .any→E 3 = x3→cO 1 s0 s3 x3 (k + SL.length + (oU skip (nu.take (i + 1))).length) (cs ++ SL.map aV ++ (oU skip (nu.take (i + 1))).map aV)→s0.le s3→K4 E s3:=by
      intro E s3 x3 f67 f66 f65 f2 f3 fx PU;refine ei _ _ ?_;clear ei K4;refine jD (Ai @f67 (bt i (by omega))) ?_;refine ⟨⟨i + 1,x3,by omega,rfl,f66,f65,f2,f3,fx,PU⟩,?_⟩;simp only [OR,aF,↓reduceIte];omega
     clear ei;rw [JN] at cW;generalize oU skip (nu.take i) = F at *
     generalize hCS : cs ++ SL.map aV = CS at *
     refine jB (Ai @g65 (Ai @OR (Ai @ax (Ai @Jf (Ai @xdH (Ai @xdI @aV.eq_1)))))) ?_;refine jS @g2 fun K hK=>?_;refine ad (P9 _ _) ?_;rintro r s3 ⟨rfl,rfl⟩;by_cases hs : u ∈ skip
     ·rw [decide_eq_true hs];rw [if_neg (fun q=>q hs),List.append_nil] at cW;refine jR hK ?_;clear hK K;refine jF ?_;refine ag ?_;simp only [aw,az,if_true,if_false];exact cW _ _ _ OR g66 g65 g2 g3 hx hle
     ·rw [decide_eq_false hs];rw [if_pos hs] at cW;have e2 : lj .i64 2 u = 2 * u:=fc (by omega);rw [List.length_append,List.length_singleton,List.map_append,List.map_cons,List.map_nil,← Nat.add_assoc,← List.append_assoc] at cW;refine jR hK ?_;clear hK K;refine jE ?_;rcases hx with ⟨rfl,ic,BT⟩ | ⟨t',e,rfl,xG,gM⟩
      ·refine wE fun K hK=>?_;simp only [↓DN,Qa,Qb,Qc,Qd,Qe,Qf,Qg,Qh,reduceCtorEq,↓reduceIte,Na,Nb,Nc,Nk,Nf,Ng,Nh,Za,Zb,Zc,TT,g3,e2,bZ,List.replicate_succ];intro t' xG;refine hK _ _ ?_;simp only [aw,az,if_true,if_false];rw [ic,BT] at cW;exact cW _ _ (.sl 1 1 [.v (.int .i64 (2 * u))] (.own t' 0)) OR g66 g65 g2 rfl (.inr ⟨t',0,rfl,by simp [AS.bo],bN hle xG⟩) (AS.bG hle (bN hle xG) 0)
      ·refine wE fun K hK=>?_;simp only [↓DN,Qa,Qb,Qc,Qd,Qe,Qf,Qg,Qh,reduceCtorEq,↓reduceIte,Na,Nb,Nc,Nk,Nf,Ng,Nh,Za,Zb,Zc,TT,g3,e2,xG,List.replicate_succ];refine ⟨by omega,by omega,hK _ _ ?_⟩;simp only [aw,az,if_true,if_false];exact cW _ _ (.sl 1 (k + SL.length + F.length + 1) (CS ++ (F.map aV ++ [.v (.int .i64 (2 * u))])) (.own t' (e + 1))) OR g66 g65 g2 rfl (.inr ⟨t',e + 1,by rw [List.append_assoc]; rfl,by simp [AS.bo],gM⟩) (AS.bG hle gM (e + 1))
    ·refine jB (Ai @OR (Ai @g66 (Ai @ax (decide_eq_false Jf)))) ?_;refine wK fun K3 bC=>?_;refine jF ?_;refine aC ?_;simp only [az,aw,if_true];refine aW _ _ ?_;clear aW K2 bC K3;rw [List.take_of_length_le (by omega)] at hx;refine jB @g3 ?_;refine jI ?_;refine ⟨_,_,AV.aA.refl _,AS.le.refl _,?_,hle⟩;rw [List.length_append,List.map_append,← Nat.add_assoc,← List.append_assoc];exact hx
  clear gE;refine al ?_;refine wK fun K3 bC=>?_;have h3 : ∀ (E : Env),E 1 = .v (.int .i64 n)→E 2 = .sl 1 skip.length (skip.map aV) .any→E 9 = .dq [.v (.int .i64 nk),.sl 1 nm.length (nm.map ai) .any,.v (.int .u64 ny),.sl 1 zh.length (zh.map ai) .any,.sl 1 nu.length (nu.map aV) .any]→E 3 = x→E 25 = .v (.bool false)→K3 E s:=by
   clear g0 g1 g2 g3 g9 g10 g11;intro E g1 g2 g9 g3 VC;refine bC _ _ ?_;clear bC K3;refine wC fun X Y hX hY=>?_;refine jP (Ai @DB @VC) ?_;refine hY ?_;clear hX hY X Y;refine wK fun K2 aW=>?_;have h2 : ∀ (E : Env) (b : Bool),(b = true↔(nk = 1∧((n / 2 : Nat) : Int) ∉ skip)∨nk = 2)→E 1 = .v (.int .i64 n)→E 2 = .sl 1 skip.length (skip.map aV) .any→E 9 = .dq [.v (.int .i64 nk),.sl 1 nm.length (nm.map ai) .any,.v (.int .u64 ny),.sl 1 zh.length (zh.map ai) .any,.sl 1 nu.length (nu.map aV) .any]→E 3 = x→E 46 = .v (.bool b)→K2 E s:=by
    clear g1 g2 g3 g9 VC;intro E b hb g1 g2 g9 g3 VF;refine aW _ _ ?_;clear aW K2;cases b with
    | false =>
     rw [if_neg (fun q=>by have:=hb.2 q; cases this)] at zA;subst zA;refine wC fun X Y hX hY=>?_;refine jP (Ai @DB @VF) ?_;refine hY ?_;clear hX hY X Y;refine ag ?_;simp only [aw,az,if_true,if_false];refine h1 _ _ x g1 g2 g9 g3 ?_ hle;simpa using hx
    | true =>
     rw [if_pos (hb.1 rfl)] at zA;subst zA;refine wC fun X Y hX hY=>?_;refine jP (Ai @DB @VF) ?_;refine hX ?_;clear hX hY X Y;rcases hx with ⟨rfl,ic,BT⟩ | ⟨t',e,rfl,xG,gM⟩
     ·refine wE fun K hK=>?_;simp only [↓DN,Qa,Qb,Qc,Qd,Qe,Qf,Qg,Qh,reduceCtorEq,↓reduceIte,Na,Nb,Nc,Nk,Nf,Ng,Nh,Za,Zb,Zc,TT,g3,g1,bZ,List.replicate_succ];intro t' xG;refine hK _ _ ?_;simp only [aw,az,if_true,if_false];rw [ic,BT] at h1;exact h1 _ _ (.sl 1 1 [.v (.int .i64 (n : Int))] (.own t' 0)) g1 g2 g9 rfl (.inr ⟨t',0,rfl,by simp [AS.bo],bN hle xG⟩) (AS.bG hle (bN hle xG) 0)
     ·refine wE fun K hK=>?_;simp only [↓DN,Qa,Qb,Qc,Qd,Qe,Qf,Qg,Qh,reduceCtorEq,↓reduceIte,Na,Nb,Nc,Nk,Nf,Ng,Nh,Za,Zb,Zc,TT,g3,g1,xG,List.replicate_succ];refine ⟨by omega,by omega,hK _ _ ?_⟩;simp only [aw,az,if_true,if_false];exact h1 _ _ (.sl 1 (k + 1) (cs ++ [.v (.int .i64 (n : Int))]) (.own t' (e + 1))) g1 g2 g9 rfl (.inr ⟨t',e + 1,rfl,by simp [AS.bo],gM⟩) (AS.bG hle gM (e + 1))
   clear aW;refine wK fun K4 ei=>?_;have h4 : ∀ (E : Env) (b : Bool),(b = true↔nk = 1∧((n / 2 : Nat) : Int) ∉ skip)→E 1 = .v (.int .i64 n)→E 2 = .sl 1 skip.length (skip.map aV) .any→E 9 = .dq [.v (.int .i64 nk),.sl 1 nm.length (nm.map ai) .any,.v (.int .u64 ny),.sl 1 zh.length (zh.map ai) .any,.sl 1 nu.length (nu.map aV) .any]→E 3 = x→E 46 = .v (.bool b)→K4 E s:=by
    clear g1 g2 g9 g3 VC;intro E b hb g1 g2 g9 g3 VF;refine ei _ _ ?_;clear ei K4;cases b with
    | true =>
     refine wC fun X Y hX hY=>?_;refine jP (Ai @DB @VF) ?_;refine hX ?_;clear hX hY X Y;refine ag ?_;exact h2 _ true ⟨fun _=>.inl (hb.1 rfl),fun _=>rfl⟩ g1 g2 g9 g3 VF
    | false =>
     refine wC fun X Y hX hY=>?_;refine jP (Ai @DB @VF) ?_;refine hY ?_;clear hX hY X Y;have Pu : ¬ (nk = 1∧((n / 2 : Nat) : Int) ∉ skip):=(fun q=>by have:=hb.2 q; cases this);by_cases k2 : nk = 2
     ·refine jU (Ai @g9 (wZ k2)) fun K hK=>?_;exact hK _ _ (h2 _ true ⟨fun _=>.inr k2,fun _=>rfl⟩ g1 g2 g9 g3 rfl)
     ·refine jU (Ai @g9 (uV k2)) fun K hK=>?_;exact hK _ _ (h2 _ false ⟨(by intro h; cases h),fun q=>by rcases q with q | q; exact absurd q Pu; exact absurd q k2⟩ g1 g2 g9 g3 rfl)
   clear ei;by_cases k1 : nk = 1
   ·refine jU (Ai @g9 (Ai (wZ k1) (Ai @g2 (Ai @g1 (Ai @tD (nh n (by omega))))))) fun K hK=>?_;refine ad (P9 _ _) ?_;rintro r s1 ⟨rfl,rfl⟩;by_cases hs : ((n / 2 : Nat) : Int) ∈ skip
    ·rw [decide_eq_true hs];refine jM ?_;exact hK _ _ (h4 _ false ⟨(by intro h; cases h),fun q=>absurd hs q.2⟩ g1 g2 g9 g3 rfl)
    ·rw [decide_eq_false hs];refine jM ?_;exact hK _ _ (h4 _ true ⟨fun _=>⟨k1,hs⟩,fun _=>rfl⟩ g1 g2 g9 g3 rfl)
   ·refine jU (Ai @g9 (uV k1)) fun K hK=>?_;exact hK _ _ (h4 _ false ⟨(by intro h; cases h),fun q=>absurd q.1 k1⟩ g1 g2 g9 g3 rfl)
  clear bC;by_cases k0 : nk = 0
  ·obtain rfl : ok = false:=by
    cases ok with
    | false=>rfl
    | true=>exact absurd k0 (ie rfl)
   refine jU (Ai @g9 (Ai @g11 (wZ k0))) fun K hK=>?_;exact hK _ _ (h3 _ g1 g2 g9 g3 rfl)
  ·refine jU (Ai @g9 (uV k0)) fun K hK=>?_;exact hK _ _ (h3 _ g1 g2 g9 g3 rfl)
 clear hK0;rcases Ci with Ci | Ci
 ·rw [Ci] at B8;refine jT fun K hK=>?_;refine ad (B8 _) ?_;rintro r s1 ⟨rfl,rfl⟩;refine jM ?_;exact hK _ _ (h0 _ 0 false (by intro h; cases h) rfl rfl rfl rfl rfl rfl rfl)
 ·cases Nn : mw (n : Int) with
  | none =>
   rw [Nn] at B8;refine jT fun K hK=>?_;refine ad (B8 _) ?_;rintro r s1 ⟨rfl,rfl⟩;refine jM ?_;exact hK _ _ (h0 _ 0 false (by intro h; cases h) rfl rfl rfl rfl rfl rfl rfl)
  | some p =>
   rw [Nn] at B8;refine jT fun K hK=>?_;refine ad (B8 _) ?_;rintro r s1 ⟨rfl,rfl⟩;refine jM ?_;exact hK _ _ (h0 _ p.1 true (fun _=>Ci) rfl rfl rfl rfl rfl rfl rfl)
theorem xh (hG : Γ 3 = fM.map pg) (t : List ao) (r3 : bO t) (skip : List Int) (VE : skip.length≤2 ^ 61) : ∀ (l n : Nat),lv n = l→n < 63→n + 2 ^ l≤t.length →
  ∀ (s0 s : AS) (x : AV) (k : Nat) (cs : List AV),cO 1 s0 s x k cs→s0.le s→k + 33 * 2 ^ l≤100000 →
  ah prog Γ 124 [bA t,.v (.int .i64 n),aR skip .any,x] s (RES s0 k cs (l8 t skip l n)):=by
 intro l;induction l with
 | zero =>
  intro n hl hn hs s0 s x k cs hx hle hk;exact mD hG t r3 skip VE n hn (by have : (2 : Nat) ^ 0 = 1:=rfl; omega) (.inl (BU hn hl)) s0 s x k cs hx hle (by have : (2 : Nat) ^ 0 = 1:=rfl; omega)
 | succ l ih =>
  intro n hl hn hs s0 s x k cs hx hle hk;have yo : 0 < 2 ^ l:=Nat.two_pow_pos l;have TI : 2 ^ (l + 1) = 2 ^ l + 2 ^ l:=(by rw [Nat.pow_succ]; omega);have hi : n < t.length:=(by omega);by_cases k0 : (nd t n).kind = 0
  ·have kE : l8 t skip (l + 1) n = l8 t skip l (n - 2 ^ l) ++ l8 t skip l (n + 2 ^ l):=(by simp only [l8]; exact if_pos k0);rw [kE];refine ab func124 rfl ntmps124 results124 (by simp) ?_;obtain ⟨Nn,hl1,Iu,BG,Lt,V4⟩:=we hn hl;have B8:=fun s=>iC (Γ:=Γ) hG (n : Int) (by omega) s;have hrc:=fun s=>mO (Γ:=Γ) hG (n : Int) (by omega) s;rw [Nn] at B8 hrc;have xhh:=nj r3 skip l (n - 2 ^ l);have h1:=fun s hle=>ih (n - 2 ^ l) hl1 (by omega) (by omega) s0 s x k cs hle;have h2:=fun s r hx=>ih (n + 2 ^ l) Iu BG (by omega) s0 s r (k + (l8 t skip l (n - 2 ^ l)).length) (cs ++ (l8 t skip l (n - 2 ^ l)).map aV) hx;have dI:=fY hi;clear ih kE;generalize l8 t skip l (n - 2 ^ l) = L1 at *
   generalize l8 t skip l (n + 2 ^ l) = L2 at *
   generalize nd t n = N at *
   unfold bA at *
   generalize aK ao.cells t = X at *
   obtain ⟨nk,nm,ny,zh,nu⟩:=N;unfold ao.cells at dI;unfold aR at *
   simp only at k0;subst k0;have dr : (0 : Int)≤(n : Int):=(by omega);refine jA ?_;refine aU 9 (by decide) ?_;intro K hK;simp only [↓DM,bL,DX,Nz,↓DN,Qa,Qb,Qc,Qd,Qe,Qf,Qg,Qh,reduceCtorEq,↓reduceIte,Na,Nb,Nc,Nk,Nf,Ng,Nh,Za,Zb,Zc,TT,ax,hi,dr,dI];intro o1 vK;refine hK _ _ o1 _ rfl vK ?_;clear hK K vK;refine jK (B8 _) ?_;rintro s1 rfl;refine wK fun K1 gE=>?_;refine al ?_;refine jA ?_;refine jE ?_;refine jK (hrc _) ?_;rintro s2 rfl;refine jQ fun K hK=>?_;refine ad (h1 _ hx hle (by omega)) ?_;rintro r s3 ⟨hx3,gX⟩;refine jM ?_;refine ad (h2 _ _ hx3 gX (by omega)) ?_;rintro r2 s4 ⟨hx4,iJ⟩;refine jR hK ?_;clear hK K;refine jI ?_;refine ⟨_,_,AV.aA.refl _,AS.le.refl _,?_,iJ⟩;rw [List.length_append,List.map_append,← Nat.add_assoc,← List.append_assoc];exact hx4
  ·have kE : l8 t skip (l + 1) n = rl skip (nd t n) n ++ oU skip (nd t n).kY:=(by simp only [l8]; exact if_neg k0);rw [kE];exact mD hG t r3 skip VE n hn hi (.inr k0) s0 s x k cs hx hle (by omega)
theorem jk (hG : Γ 3 = fM.map pg) (t : List ao) (ht : gG t) (x : Int) (skip : List Int) (VE : skip.length≤2 ^ 61) (s : AS) :
  ah prog Γ 61 [bA t,.v (.int .i64 x),aR skip .any] s (fun r s'=>r = aR (bQ t x skip) .any∧s' = s):=by
 refine ab func61 rfl ntmps61 results61 (by simp) ?_;have hr:=fun s=>jy (Γ:=Γ) hG t ht s;have hh:=fun (r3 : bO t) n hn hs s=>xh (Γ:=Γ) hG t r3 skip VE (lv n) n rfl hn hs s s bZ 0 [] (cO.nil _ _ _) (AS.le.refl _);have lT:=ht.1;have vE : ¬ (0≤x∧x < (t.length : Int)∧bO t)→bQ t x skip = []:=fun h=>if_neg h;have H3 : 0≤x∧x < (t.length : Int)∧bO t→bQ t x skip = l8 t skip (lv x.toNat) x.toNat:=fun h=>if_pos h;unfold bA at *
 generalize aK ao.cells t = X at *
 unfold bZ at hh;refine jA ?_;refine wK fun K hK=>?_;by_cases h0 : x < 0
 ·refine jB (decide_eq_true h0) ?_;refine jE ?_;refine jA ?_;refine jI ?_;refine ⟨_,_,AV.aJ (sz:=1),AS.le.refl _,?_,rfl⟩;rw [vE (fun k=>by omega)];rfl
 ·by_cases h1 : (t.length : Int)≤x
  ·refine jB (Ai (decide_eq_false h0) (decide_eq_true h1)) ?_;refine jE ?_;refine jA ?_;refine jI ?_;refine ⟨_,_,AV.aJ (sz:=1),AS.le.refl _,?_,rfl⟩;rw [vE (fun k=>by omega)];rfl
  ·refine jS (Ai (decide_eq_false h0) (decide_eq_false h1)) fun K hK=>?_;refine ad (hr _) ?_;rintro r s1 ⟨rfl,rfl⟩;by_cases r3 : bO t
   ·rw [decide_eq_true r3];refine jR hK ?_;clear hK K;refine jF ?_;refine ag ?_;refine hK _ _ ?_;clear hK K;obtain ⟨n,rfl⟩:=Int.eq_ofNat_of_zero_le (show 0≤x by omega);have hn : n < t.length:=(by omega);obtain ⟨iQ,oR⟩:=r3.span hn;have GF:=tC (pP n);refine jQ fun K hK=>?_;refine ad (hh r3 n oR iQ _ (by omega)) ?_;rintro r s2 ⟨hx,hle⟩;refine jR hK ?_;clear hK K;refine jI ?_;refine ⟨_,_,hx.aA,hle,?_,rfl⟩;rw [H3 ⟨by omega,by omega,r3⟩,Int.toNat_natCast];unfold aR;rw [Nat.zero_add,List.nil_append]
   ·rw [decide_eq_false r3];refine jR hK ?_;clear hK K;refine jE ?_;refine jA ?_;refine jI ?_;refine ⟨_,_,AV.aJ (sz:=1),AS.le.refl _,?_,rfl⟩;rw [vE (fun k=>r3 k.2.2)];rfl
def DJ (s s' : AS) (r : AV) (l : List Int) : Prop:=m6 1 s' r l.length (l.map aV)∧(∀ o,wg r = some o→s.aq o = none)∧s.le s'
theorem zB (s : AS) : ah prog Γ 191 [bZ] s (fun r s'=>DJ s s' r []):=by
 refine ab func191 rfl ntmps191 results191 (by simp) ?_;unfold bZ;refine jA ?_;refine wK fun K hK=>?_;refine jA ?_;refine jE ?_;refine jA ?_;refine jI ?_;exact ⟨_,_,AV.aA.refl _,AS.le.refl _,.inl ⟨rfl,rfl,.inl rfl⟩,(fun o h=>by cases h),AS.le.refl _⟩
theorem Bb (l : List Int) (s : AS) (hl : l.length≤2 ^ 42) : ah prog Γ 191 [aR l .no] s (fun r s'=>DJ s s' r l):=by
 refine ab func191 rfl ntmps191 results191 (by simp) ?_;unfold aR;refine jA ?_;refine wK fun K hK=>?_;refine jB @and_false ?_;refine jF ?_;refine ag ?_;refine hK _ _ ?_;clear hK K;by_cases h0 : l.length = 0
 ·have ur : l = []:=List.eq_nil_of_length_eq_zero h0;subst ur;refine jA ?_;refine jI ?_;exact ⟨_,s,AV.aA.refl _,AS.le.refl s,.inl ⟨rfl,rfl,.inr (.inr rfl)⟩,(fun o h=>by cases h),AS.le.refl _⟩
 ·refine EZ rfl (by decide) ?_;intro ops;refine jM ?_;refine ⟨_,fun G a w hr=>lF (n:=0) (m:=l.length) (cs:=[]) (ds:=l.map aV) (e:=3) (z:=[.v (.int .i64 0)]) rfl underlying24 (by simp only [↓DN,Qa,Qb,Qc,Qd,Qe,Qf,Qg,Qh,reduceCtorEq,↓reduceIte,Na,Nb,Nc,Nk,Nf,Ng,Nh,Za,Zb,Zc,TT]; try rfl) (by simp only [↓DN,Qa,Qb,Qc,Qd,Qe,Qf,Qg,Qh,reduceCtorEq,↓reduceIte,Na,Nb,Nc,Nk,Nf,Ng,Nh,Za,Zb,Zc,TT]; try rfl) (by rw [T.c3]; decide) (by rw [T.c3]; rfl) (by simp only [↓DN,Qa,Qb,Qc,Qd,Qe,Qf,Qg,Qh,reduceCtorEq,↓reduceIte,Na,Nb,Nc,Nk,Nf,Ng,Nh,Za,Zb,Zc,TT,iO,aI,aF,Nc,↓reduceIte]) h0 (by rw [T.b3]; omega) (by omega) (by simp [List.all_eq_true,aV,AV.one]) (by rw [T.c3]; exact .inl ⟨rfl,rfl,.inr (.inr rfl)⟩) hr.eval hr.st,?_⟩;rw [T.c3];rintro r s1 ⟨ob,cap,rest,rfl,ib,Ep,uS,qx,rfl⟩;refine jM ?_;refine jI ?_;have qx : s.aq ob = none:=by
   rcases qx with h | ⟨_,h⟩
   ·exact h
   ·simp [aI,aF] at h
  rw [Nat.zero_add,Nat.mul_one] at *
  refine ⟨_,_,AV.aA.refl _,AS.le.refl _,.inr ⟨ob,cap,rest,rfl,AS.aa _ _ _,by simp,by rw [Nat.mul_one]; exact uS,ib,Ep⟩,fun o h=>?_,AS.aB (AS.le.refl s) qx _⟩;cases h;exact qx
theorem vv (l : List Int) (s : AS) (hl : l.length≤2 ^ 42) : ah prog Γ 191 [aR l .any] s (fun r s'=>DJ s s' r l) :=
 ah.anyS (post:=[]) (fun e _=>by obtain rfl : l = []:=List.eq_nil_of_length_eq_zero e; exact zB s) (Bb l s hl)
theorem vw (N : ao) (hm : N.name.length≤2 ^ 45) (hp : N.parent.length≤2 ^ 45) (hu : N.kY.length≤2 ^ 42) (s : AS) : ah prog Γ 156 [.agg N.cells] s (fun r s'=>∃ x,r = .agg (gq (N,x))∧DJ s s' x N.kY):=by
 refine ab func156 rfl ntmps156 results156 (by simp) ?_;unfold ao.cells;obtain ⟨k,m,y,pa,u⟩:=N;simp only at hp hu hm;refine jS @aR.eq_1 fun K hK=>?_;intro o1 vK o2 iR;have OZ : o2≠o1:=by
  rintro rfl;simp [AS.set] at iR
 have AR:=OZ.symm;have ZC : s.aq o2 = none:=(by simpa [AS.set,aF,OZ] using iR);refine hK _ _ ?_;clear hK K;refine ef T.mixed [(o1,[.v (.int .i64 k),.sl 1 m.length (m.map ai) .any,.v (.int .u64 y),.sl 1 pa.length (pa.map ai) .any,.sl 1 u.length (u.map aV) .any])] [2,5,8] [1,4,7] [10,12,14] (by kernel_rfl) (by simp only [aD,aG,and_true]; simp [AS.set,aF,AR,OZ]) ?_;intro K hK;simp only [↓bd,↓aS,cZ,cV,aL,aO,aD,aG,List.any_cons,List.any_nil,List.contains_cons,List.contains_nil,Nat.reduceBEq,Bool.or_false,Bool.or_true,Bool.or_self,Bool.false_or,↓DN,Qa,Qb,Qc,Qd,Qe,Qf,Qg,Qh,reduceCtorEq,↓reduceIte,Na,Nb,Nc,Nk,Nf,Ng,Nh,Za,Zb,Zc,TT,OZ,AR];refine ad (ga m _ (by omega)) ?_;rintro r s' ⟨rfl,rfl⟩;simp only [↓bI,↓bp,bL,↓bd,↓aS,cZ,cV,aL,aO,aD,aG,List.any_cons,List.any_nil,DX,Nat.reduceBEq,↓DN,Qa,Qb,Qc,Qd,Qe,Qf,Qg,Qh,reduceCtorEq,↓reduceIte,Na,Nb,Nc,Nk,Nf,Ng,Nh,Za,Zb,Zc,TT,OZ,AR];refine ad (ga pa _ hp) ?_;rintro r s' ⟨rfl,rfl⟩;simp only [↓bI,↓bp,bL,↓bd,↓aS,cZ,cV,aL,aO,aD,aG,List.any_cons,List.any_nil,DX,Nat.reduceBEq,↓DN,Qa,Qb,Qc,Qd,Qe,Qf,Qg,Qh,reduceCtorEq,↓reduceIte,Na,Nb,Nc,Nk,Nf,Ng,Nh,Za,Zb,Zc,TT,OZ,AR];refine ad (vv u _ hu) ?_;rintro r s' ⟨hb,ln,hle⟩;have q1 : s'.aq o1 = some [.v (.int .i64 k),.sl 1 m.length (m.map ai) .any,.v (.int .u64 y),.sl 1 pa.length (pa.map ai) .any,.sl 1 u.length (u.map aV) .any]:=hle.aq _ _ (by simp [AS.set,aF,AR]);have q2 : s'.aq o2 = some [.v (.int .i64 0),.v (.slice none 0 0),.v (.int .u64 0),.v (.slice none 0 0),.v (.slice none 0 0)]:=hle.aq _ _ (AS.aa _ _ _);have hs : s.le s':=(AS.aB (AS.aB (AS.le.refl s) vK _) ZC _).trans hle;have n1 : wg r≠some o1:=(fun e=>by have:=ln o1 e; simp [AS.set,aF,AR] at this);have n2 : wg r≠some o2:=(fun e=>by have:=ln o2 e; simp [AS.set] at this);have n0 : ∀ o,wg r = some o→s.aq o = none:=fun o e=>AS.le_none (AS.aB (AS.aB (AS.le.refl s) vK _) ZC _) (ln o e);have lY : r.one = true:=by
  rcases hb with ⟨_,_,rfl | rfl | rfl⟩ | ⟨_,_,_,rfl,_⟩ <;> rfl
 have hcell : r.cells = [r]:=by
  rcases hb with ⟨_,_,rfl | rfl | rfl⟩ | ⟨_,_,_,rfl,_⟩ <;> rfl
 unfold AV.cells at hcell;unfold AV.one at lY;simp only [↓bI,↓bp,bL,↓bd,↓aS,cZ,cV,aL,aO,aD,aG,List.any_cons,List.any_nil,DX,Nat.reduceBEq,↓DN,Qa,Qb,Qc,Qd,Qe,Qf,Qg,Qh,reduceCtorEq,↓reduceIte,Na,Nb,Nc,Nk,Nf,Ng,Nh,Za,Zb,Zc,TT,q1,q2,hcell,OZ,AR,aR,lY];refine hK _ _ ?_;clear hK K;refine jB (Ai @q1 (Ai @q2 (Ai @hcell (Ai @OZ (Ai @AR (Ai @aR.eq_1 @lY)))))) ?_;refine a7 ?_;refine ch (o:=o2) (off:=0) rfl (AS.aa _ _ _) (by rw [T.RG]; decide) (by simp only [↓DN,Qa,Qb,Qc,Qd,Qe,Qf,Qg,Qh,reduceCtorEq,↓reduceIte,Na,Nb,Nc,Nk,Nf,Ng,Nh,Za,Zb,Zc,TT]; rfl) ?_;refine ⟨_,_,AV.aA.refl _,AS.le.refl _,r,rfl,?_,n0,?_⟩
 ·first | exact ((((hb.mQ n1).mQ n1).mQ n1).mQ n2) | exact ((hb.mQ n1).mQ n2)
 ·first | exact AS.aB (AS.aB (AS.aB (AS.aB hs vK _) vK _) vK _) ZC _ | exact AS.aB (AS.aB hs vK _) ZC _
theorem KE (a b c d e : AV) : lW 5 [a,b,c,d,e] = [a,b,c,d,e]:=rfl
theorem oI.leR {s0 s s' : AS} {X : AV} {TS : List (ao × AV)} (h : oI s0 s X TS) (k : s.le s') : oI s0 s' X TS :=
 ⟨⟨fun p hp=>(h.xs.buf p hp).le k,h.xs.new,h.xs.sep⟩,h.le.trans k,h.row.le k,h.PX,h.TK⟩
def p5 (n : ao) : Prop:=n.name.length≤2 ^ 45∧n.parent.length≤2 ^ 45∧n.kY.length≤2 ^ 42
theorem Bc (t : List ao) (ht : t.length≤2 ^ 30) (hw : ∀ n ∈ t,p5 n) (s : AS) : ah prog Γ 109 [bA t] s (fun r s'=>∃ TS,TS.map (·.1) = t∧oI s s' r TS):=by
 refine ab func109 rfl ntmps109 results109 (by simp) ?_
 have dI:=fun i (h : i < t.length)=>fY (t:=t) h
 have hnW : ∀ i (h : i < t.length),p5 (nd t i):=fun i h=>by rw [yU h]; exact hw _ (List.getElem_mem h)
 have ft : ∀ i (h : i < t.length),t.take (i + 1) = t.take i ++ [nd t i]:=fun i h=>by rw [List.take_succ_eq_append_getElem h,yU h]
 unfold bA at *
 generalize aK ao.cells t = X at *
 refine jA ?_
 refine jA ?_
 refine wK fun K hK=>?_
 refine jA ?_
 refine al ?_
 refine aE (fun E s2=>∃ (i : Nat) (x : AV) (TS : List (ao × AV)),i≤t.length∧E 8 = .v (.int .i64 i)∧E 7 = .v (.int .i64 t.length)∧E 6 = .sl 5 t.length X .any∧E 3 = x∧TS.map (·.1) = t.take i∧oI s s2 x TS)
  (fun E _=>match E 8 with | .v (.int _ i)=>t.length - i.toNat | _=>0) ?_ ?_
 ·exact ⟨0,_,[],Nat.zero_le _,by simp only [aF,Nc,↓reduceIte]; rfl,by simp only [aF,Nc,↓reduceIte],by simp only [aF,Nc,↓reduceIte],by simp only [aF,Nc,↓reduceIte]; rfl,rfl,oI.nil s⟩
 ·rintro E1 s2 ⟨i,x,TS,hi,g8,g7,g6,g3,hT,hx⟩ -
  by_cases bc : i < t.length
  ·refine jB (Ai @g8 (Ai @g7 (Ai @ax (decide_eq_true bc)))) ?_
   refine wK fun K2 aW=>?_
   refine jE ?_
   refine ag ?_
   refine aW _ _ ?_;clear aW K2
   refine wK fun K3 bC=>?_
   refine al ?_
   have zg:=dI i bc
   have hN:=hnW i bc
   have eN:=ft i bc
   generalize nd t i = N at *
   have hTl : TS.length = i:=by have:=congrArg List.length hT; simp at this; omega
   have dr : (0 : Int)≤((i : Nat) : Int):=by omega
   obtain ⟨nk,nm,ny,zh,nu⟩:=N
   unfold ao.cells at zg
   simp only at zg
   refine aU 5 (by decide) ?_
   intro K hK
   simp only [↓DM,bL,DX,Nz,↓DN,Qa,Qb,Qc,Qd,Qe,Qf,Qg,Qh,reduceCtorEq,↓reduceIte,Na,Nb,Nc,Nk,Nf,Ng,Nh,Za,Zb,Zc,TT,g6,g8,ax,bc,dr,zg,aR]
   intro o1 h1
   refine hK _ _ o1 _ (by simp only [aF,Nc,↓reduceIte]) h1 ?_
   clear hK K h1
   refine yE rfl (by decide) ?_
   intro ops
   simp only [↓DM,bL,DX,Nz,↓DN,Qa,Qb,Qc,Qd,Qe,Qf,Qg,Qh,reduceCtorEq,↓reduceIte,Na,Nb,Nc,Nk,Nf,Ng,Nh,Za,Zb,Zc,TT,g3]
   refine ad (vw ⟨nk,nm,ny,zh,nu⟩ hN.1 hN.2.1 hN.2.2 _) ?_
   rintro r s3 ⟨xn,rfl,hb,ln,gX⟩
   unfold gq at *
   simp only [↓DM,bL,DX,Nz,↓DN,Qa,Qb,Qc,Qd,Qe,Qf,Qg,Qh,reduceCtorEq,↓reduceIte,Na,Nb,Nc,Nk,Nf,Ng,Nh,Za,Zb,Zc,TT,g3,KE]
   have oq : s2.le s3:=gX
   have oc : m6 5 s3 x i (aK gq TS):=by
    have:=hx.row.le gX
    rwa [hTl] at this
   have lY : xn.one = true:=by
    rcases hb with ⟨_,_,rfl | rfl | rfl⟩ | ⟨_,_,_,rfl,_⟩ <;> rfl
   refine ⟨_,fun G a w hr=>lF (n:=i) (m:=1) (cs:=aK gq TS) (ds:=gq (⟨nk,nm,ny,zh,nu⟩,xn)) (e:=54) rfl underlying22 (by simp only [↓DN,Qa,Qb,Qc,Qd,Qe,Qf,Qg,Qh,reduceCtorEq,↓reduceIte,Na,Nb,Nc,Nk,Nf,Ng,Nh,Za,Zb,Zc,TT]; try rfl) T.z54 (by rw [T.RG]; decide) (by rw [T.RG]; rfl) (by rw [T.RG]; simp only [↓DN,Qa,Qb,Qc,Qd,Qe,Qf,Qg,Qh,reduceCtorEq,↓reduceIte,Na,Nb,Nc,Nk,Nf,Ng,Nh,Za,Zb,Zc,TT,iO,aI,aF,Nc,↓reduceIte]; rfl) (by decide) (by rw [T.b54]; omega) (by omega) (by simp only [gq,List.all_cons,List.all_nil,lY]; rfl) (by rw [T.RG]; exact oc) hr.eval hr.st,?_⟩
   rw [T.RG]
   rintro r s4 ⟨ob,cap,rest,rfl,ib,Ep,uS,qx,rfl⟩
   have xdJ : s3.aq ob = none∨∃ rQ,x = .gw ob 0 5 TS.length rQ:=by
    rw [hTl]; exact qx
   have Sk:=(oI.leR hx gX).push (p:=(⟨nk,nm,ny,zh,nu⟩,xn)) (ob:=ob) (cap:=cap) (rest:=rest) hb
    (fun o ho=>⟨AS.le_none hx.le (ln o ho),(fun q hq e=>by obtain ⟨ds,hd⟩:=(hx.xs.buf q hq).some e; rw [ln o ho] at hd; cases hd),(fun e=>by obtain ⟨ds,hd⟩:=hx.row.some e; rw [ln o ho] at hd; cases hd)⟩)
    xdJ (by rw [hTl]; exact ib) Ep (by rw [hTl]; exact uS)
   rw [hTl,List.append_assoc] at Sk
   refine jV @g3 bC ?_;clear bC K3
   refine jD (Ai @g8 (bt i (by omega))) ?_
   refine ⟨⟨i + 1,.gw ob 0 5 (i + 1) cap,TS ++ [(⟨nk,nm,ny,zh,nu⟩,xn)],by omega,by simp only [aF,Nc,↓reduceIte],by simp only [aF,g7,Nc,↓reduceIte],by simp only [aF,g6,Nc,↓reduceIte],by simp only [aF,Nc,↓reduceIte],by rw [List.map_append,hT,eN]; rfl,Sk⟩,?_⟩
   simp only [g8,aF,↓reduceIte]
   omega
  ·refine jB (Ai @g8 (Ai @g7 (Ai @ax (decide_eq_false bc)))) ?_
   refine wK fun K2 aW=>?_
   refine jF ?_
   refine aC ?_
   simp only [az,aw,if_true]
   refine hK _ _ ?_;clear hK aW K2 K
   obtain rfl : i = t.length:=by omega
   refine jB @g3 ?_
   refine jI ?_
   exact ⟨_,_,AV.aA.refl _,AS.le.refl _,TS,by rw [hT,List.take_length],hx⟩
end Go.Proofs.YtbiefppedlodiaaGreatDoor
namespace Go.AM
open Go
def xhi (L : Nat) (t : List ao) : Prop:=Fit L∧t.length = 2 * L - 1 ∧
    (∀ i,i < 2 * L - 1→(nd t i).right∧((nd t i).kind = 0∨((nd t i).kind = 1↔i % 2 = 0))∧∀ u ∈ (nd t i).kY,(lo i : Int)≤u∧u≤(hi i : Int)∧0≤u∧u < (L : Int)∧(nd t (2 * u.toNat)).kind = 1) ∧
    (∀ a b,a < b→b < L→(nd t (2 * a)).kind = 1→(nd t (2 * b)).kind = 1→(nd t (2 * b)).name≠(nd t (2 * a)).name)
theorem zi {t : List ao} {name : List UInt8} (h : ¬ 0≤nZ t name 0) {L : Nat} (hL : Fit L) (hlen : t.length = 2 * L - 1) {j : Nat} (hj : j < L) (hk : (nd t (2 * j)).kind = 1) : (nd t (2 * j)).name≠name:=by
  intro e;have hl:=TH hL hlen;have hb:=hL.le;have h1:=uW (fun j=>decide (eW t j∧(nd t (2 * j)).name = name)) (pV t - 0) 0;have h2 : decide (0≤nZ t name 0) = true:=h1.2 ⟨j,Nat.zero_le _,by unfold pV; omega,decide_eq_true ⟨(M7 hl _).2 ⟨hj,hk⟩,e⟩⟩;exact h (of_decide_eq_true h2)
def xad (key : Nat) : Prop:=2≤(key : Int)∧(key : Int)≤2305843009213693949
instance (key : Nat) : Decidable (xad key):=by unfold xad; infer_instance
open Go Go.RowKit
variable {P : Program} {Γ : Nat→List AV} {s : AS}
theorem H4 {α : Type} {c : α→List AV} {l : List α} {u : Nat} (h : u < l.length) : aK c l = aK c (l.take u) ++ c l[u] ++ aK c (l.drop (u + 1)):=by
  have e : l = l.take u ++ l[u] :: l.drop (u + 1):=(by rw [List.getElem_cons_drop,List.take_append_drop]);have e2 : aK c l = aK c (l.take u ++ l[u] :: l.drop (u + 1)):=(by rw [← e]);rw [e2];simp only [aK,List.map_append,List.map_cons,List.flatten_append,List.flatten_cons,List.append_assoc]
theorem zC {α : Type} {c : α→List AV} {k : Nat} (hk : ∀ a,(c a).length = k) {l : List α} {u : Nat} (h : u < l.length) (a : α) (rest : List AV) : bn (aK c l ++ rest) (u * k) (c a) = aK c (l.set u a) ++ rest:=by
  have hl : (aK c (l.take u)).length = u * k:=(by rw [dk hk,List.length_take]; congr 1; omega);have e2 : aK c (l.set u a) = aK c (l.take u) ++ c a ++ aK c (l.drop (u + 1)):=by
    rw [List.set_eq_take_append_cons_drop,if_pos h];simp [aK]
  rw [e2,H4 h];rw [Mac.mU _ _ _ (by simp [hk,hl])];have a1 : (aK c (l.take u) ++ c l[u] ++ aK c (l.drop (u + 1)) ++ rest).take (u * k) = aK c (l.take u):=by
    rw [List.append_assoc,List.append_assoc,← hl,List.take_left]
  have a2 : (aK c (l.take u) ++ c l[u] ++ aK c (l.drop (u + 1)) ++ rest).drop (u * k + (c a).length) = aK c (l.drop (u + 1)) ++ rest:=by
    have e3 : u * k + (c a).length = (aK c (l.take u) ++ c l[u]).length:=(by rw [List.length_append,hl,hk,hk]);rw [e3,List.append_assoc _ _ rest,List.drop_left]
  rw [a1,a2];simp
end Go.AM
namespace Go.Proofs.YtbiefppedlodiaaGreatDoor
open Go Go.AM Go.Proofs Tryz
variable {Γ : Nat→List AV}
instance (t : List ao) : Decidable (gG t):=by unfold gG; infer_instance
def DK (n : ao) : Prop:=n.name.length≤40∧n.parent.length≤60∧n.kY.length≤40
def Nu (t : List ao) : Prop:=t.length≤63∧∀ n ∈ t,DK n
instance (n : ao) : Decidable (DK n):=by unfold DK; infer_instance
instance (t : List ao) : Decidable (Nu t):=by unfold Nu; infer_instance
end Go.Proofs.YtbiefppedlodiaaGreatDoor
namespace Go.AM
open Go
def Cj (k : Nat) (l : List UInt8) : List UInt8:=be k l.length ++ l
def lI.body (p : lI) : List UInt8:=if p.kind = 1 then Cj 1 p.name ++ (be 8 p.key ++ be 8 p.init) else if p.kind = 2 then be 1 p.leaf.toNat ++ be 8 p.key else be 1 p.leaf.toNat
def lI.text (p : lI) : List UInt8:=be 1 p.kind.toNat ++ p.body
def aY.fq (x : aY) : List UInt8:=be 8 x.ju ++ Cj 2 x.text
def cA {α : Type} (f : α→List UInt8) (l : List α) : List UInt8:=(l.map f).flatten
def aM.text (x : aM) : List UInt8:=be 8 x.key ++ (be 1 x.c7.length ++ cA aY.fq x.c7)
def bE.text (x : bE) : List UInt8:=be 8 x.key ++ (Cj 1 x.parent ++ (be 1 x.steps.length ++ cA aM.text x.steps))
def cQ.tail (c : cQ) : List UInt8:=if c.xy then be 1 1 ++ c.path.text else be 1 0
def cQ.content (c : cQ) : List UInt8 :=
  be 1 1 ++ (Cj 1 c.group ++ (be 8 c.iA.toNat ++ (be 1 c.De.toNat ++ (be 1 c.props.length ++ (cA lI.text c.props ++ c.tail)))))
def cQ.text (c : cQ) : List UInt8:=c.content ++ (Cj 1 c.Df ++ Cj 1 c.Hy)
theorem ot {α : Type} (f : α→List UInt8) {l : List α} {i : Nat} (h : i < l.length) : cA f (l.take (i + 1)) = cA f (l.take i) ++ f l[i]:=by
  unfold cA;rw [List.take_succ_eq_append_getElem h,List.map_append,List.flatten_append];simp only [List.map_cons,List.map_nil,List.flatten_cons,List.flatten_nil,List.append_nil]
theorem jl {α : Type} {f : α→List UInt8} {n : Nat} : ∀ {l : List α},(∀ x ∈ l,(f x).length≤n)→(cA f l).length≤l.length * n
  | [],_=>by simp [cA]
  | a :: l,h=>by
    have ih:=jl (l:=l) fun x hx=>h x (by simp [hx]);have h1:=h a (by simp);have : cA f (a :: l) = f a ++ cA f l:=rfl;rw [this,List.length_append,List.length_cons,Nat.succ_mul];omega
theorem ua (k : Nat) (l : List UInt8) : (Cj k l).length = k + l.length:=by simp [Cj]
def aY.fits (p : aY) : Prop:=p.text.length≤100
def aM.fits (p : aM) : Prop:=(∀ x ∈ p.c7,x.fits)∧True∧p.c7.length≤32
def bE.fits (p : bE) : Prop:=(∀ x ∈ p.steps,x.fits)∧True∧p.parent.length≤200∧p.steps.length≤20
theorem aY.gI {x : aY} (h : x.fits) : x.fq.length≤110:=by
  unfold aY.fits at h;unfold aY.fq;have:=ua 2 x.text;rw [List.length_append,b8];omega
theorem aM.gI {x : aM} (h : x.fits) : x.text.length≤3529:=by
  have h1:=jl (f:=aY.fq) (n:=110) (l:=x.c7) fun y hy=>aY.gI (h.1 y hy);have h2:=h.2.2;have h3 : x.c7.length * 110≤32 * 110:=Nat.mul_le_mul_right _ h2;unfold aM.text;rw [List.length_append,List.length_append,b8,b8];omega
theorem bE.gI {x : bE} (h : x.fits) : x.text.length≤72000:=by
  have h1:=jl (f:=aM.text) (n:=3529) (l:=x.steps) fun y hy=>aM.gI (h.1 y hy);have h2:=h.2.2.2;have h4:=h.2.2.1;have h3 : x.steps.length * 3529≤20 * 3529:=Nat.mul_le_mul_right _ h2;simp [bE.text,ua]; omega
end Go.AM
namespace Go.AM
namespace Kdf
variable (aP info : List UInt8)
def nB : Nat→List UInt8
  | 0=>[]
  | i + 1=>Mac.tag aP (nB i ++ info ++ [UInt8.ofNat (i + 1)])
def row : Nat→List UInt8
  | 0=>[]
  | i + 1=>row i ++ nB aP info (i + 1)
theorem uc (i : Nat) : (nB aP info (i + 1)).length = 32:=Mac.mB _ _
theorem dk : ∀ i : Nat,(row aP info i).length = 32 * i
  | 0=>rfl
  | i + 1=>by rw [row,List.length_append,dk i,uc]; omega
def rounds (n : Nat) : Nat:=(n + 31) / 32
def expand (n : Nat) : List UInt8:=(row aP info (rounds n)).take n
theorem vx (n : Nat) : n≤32 * rounds n:=by unfold rounds; omega
theorem gZ (n : Nat) : (expand aP info n).length = n:=by
  rw [expand,List.length_take,dk];have:=vx n;omega
theorem due (n i : Nat) : 32 * i < n↔i < rounds n:=by unfold rounds; omega
def ok (n : Int) : Bool:=decide (0≤n) && decide (n≤8160)
def get (n : Int) : List UInt8:=if ok n = true then expand aP info n.toNat else []
end Kdf
namespace Kdf
def Ec : List UInt8:=[109,108,115,32]
def fits (l c : List UInt8) (n : Int) : Bool:=decide (l.length≤251) && decide (c.length≤65535) && decide (0≤n) && decide (n≤8160)
def text (l c : List UInt8) (n : Nat) : List UInt8:=be 2 n ++ (be 1 (Ec ++ l).length ++ (Ec ++ l)) ++ (be 2 c.length ++ c)
def label (aP l c : List UInt8) (n : Int) : List UInt8:=if fits l c n = true then expand aP (text l c n.toNat) n.toNat else []
def derive (aP l : List UInt8) : List UInt8:=label aP (l.take 251) [] 32
def VG (l c : List UInt8) (n : Int) : List UInt8 × Bool:=dj 2 c (dj 1 (Ec ++ l) (bf 2 n ([],false)))
theorem QD {k n : Nat} {st : List UInt8 × Bool} (h : st.2 = true) : (dN k n st).2 = true:=by rw [dN,if_pos h]; exact h
theorem KF {k : Nat} {n : Int} {st : List UInt8 × Bool} (h : st.2 = true) : (bf k n st).2 = true:=by
  unfold bf;split
  · exact QD h
  · rfl
theorem Jg {m : List UInt8} {st : List UInt8 × Bool} (h : st.2 = true) : (cx m st).2 = true:=by rw [cx,if_pos h]; exact h
theorem zD {k : Nat} {m : List UInt8} {st : List UInt8 × Bool} (h : st.2 = true) : (dj k m st).2 = true:=Jg (KF h)
theorem zE {k : Nat} {n : Int} {st : List UInt8 × Bool} (h : ¬ (0≤n∧n < 2 ^ (8 * k))) : (bf k n st).2 = true:=by rw [bf,if_neg h]
theorem Ck {k : Nat} {m : List UInt8} {st : List UInt8 × Bool} (h : ¬ (m.length : Int) < 2 ^ (8 * k)) : (dj k m st).2 = true:=Jg (zE fun h'=>h h'.2)
theorem Nv (l c : List UInt8) (n : Int) (h0 : 0≤n) (h1 : n≤65535) (hl : l.length≤251) (hc : c.length≤65535) : VG l c n = (text l c n.toNat,false):=by
  obtain ⟨m,rfl⟩ : ∃ m : Nat,n = (m : Int):=⟨n.toNat,by omega⟩;have hm : (Ec ++ l).length = 4 + l.length:=(by simp [Ec]; omega);unfold VG;rw [te (by omega),vU (by rw [hm]; omega),vU (by omega)];simp [text]
theorem QE (l c : List UInt8) (n : Int) (h : ¬ (0≤n∧n≤65535∧l.length≤251∧c.length≤65535)) : (VG l c n).2 = true:=by
  have hm : (Ec ++ l).length = 4 + l.length:=(by simp [Ec]; omega);unfold VG;by_cases h0 : 0≤n∧n < 2 ^ (8 * 2)
  · by_cases h1 : ((Ec ++ l).length : Int) < 2 ^ (8 * 1)
    · refine Ck fun h2=>h ?_;simp only [Nat.reduceMul] at h0 h1 h2;refine ⟨h0.1,by omega,by omega,by omega⟩
    · exact zD (Ck h1)
  · exact zD (zD (zE h0))
theorem nf (k : Nat) (m : List UInt8) (st : List UInt8 × Bool) : (dj k m st).1.length≤st.1.length + k + m.length:=by
  have:=eS k (m.length : Int) st;unfold dj cx;split
  · omega
  · simp only [List.length_append];omega
end Kdf
namespace Sch
def Uj : List UInt8:=[101,112,111,99,104]
def Nw : List UInt8:=[119,101,108,99,111,109,101]
def KG : List UInt8:=[101,120,112,111,114,116,101,114]
def Nx : List UInt8:=[99,111,110,102,105,114,109]
def QF : List UInt8:=[109,101,109,98,101,114,115,104,105,112]
def xae : List UInt8:=[105,110,105,116]
def main (j : List UInt8) : List UInt8:=Mac.tag j (List.replicate 32 0)
def iA (j c : List UInt8) : List UInt8:=Kdf.label (main j) Uj c 32
def of (j c : List UInt8) : List (List UInt8):=[j,Kdf.derive (main j) Nw,Kdf.derive (iA j c) KG,Kdf.derive (iA j c) Nx,Kdf.derive (iA j c) QF,Kdf.derive (iA j c) xae]
end Sch
namespace Aes
def O0 (a : UInt8) : UInt8:=(a <<< (1 : UInt8)) ^^^ ((27 : UInt8) &&& ((0 : UInt8) - (a >>> (7 : UInt8))))
def gm : Nat→UInt8→UInt8→UInt8→UInt8
  | 0,o,_,_=>o
  | f + 1,o,a,b=>gm f (o ^^^ (a &&& ((0 : UInt8) - (b &&& 1)))) (O0 a) (b >>> 1)
theorem Jh : ∀ (f : Nat) (o a : UInt8),gm f o a 0 = o
  | 0,o,a=>rfl
  | f + 1,o,a=>by
    have e : o ^^^ (a &&& ((0 : UInt8) - ((0 : UInt8) &&& 1))) = o:=by
      have : (0 : UInt8) - ((0 : UInt8) &&& 1) = 0:=(by decide);rw [this]; simp
    rw [gm,e,show (0 : UInt8) >>> 1 = 0 from by decide];exact Jh f o _
def pw : Nat→UInt8→UInt8→Nat→UInt8
  | 0,o,_,_=>o
  | f + 1,o,a,n=>pw f (if n % 2 = 1 then gm 8 0 o a else o) (gm 8 0 a a) (n / 2)
theorem Ji : ∀ (f : Nat) (o a : UInt8),pw f o a 0 = o
  | 0,_,_=>rfl
  | f + 1,o,a=>by rw [pw]; exact Ji f o _
def inv (a : UInt8) : UInt8:=pw 8 1 a 254
def rot (x : UInt8) (i : Nat) : UInt8:=UInt8.ofNat (x.toNat * 2 ^ i) ||| UInt8.ofNat (x.toNat / 2 ^ (8 - i))
def H5 (x : UInt8) : Nat→UInt8
  | 0=>99 ^^^ x
  | k + 1=>H5 x k ^^^ rot x (k + 1)
def box (c : UInt8) : UInt8:=H5 (inv c) 4
def sb : List UInt8:=[99,124,119,123,242,107,111,197,48,1,103,43,254,215,171,118,202,130,201,125,250,89,71,240,173,212,162,175,156,164,114,192,183,253,147,38,54,63,247,204,52,165,229,241,113,216,49,21,4,199,35,195,24,150,5,154,7,18,128,226,235,39,178,117,9,131,44,26,27,110,90,160,82,59,214,179,41,227,47,132,83,209,0,237,32,252,177,91,106,203,190,57,74,76,88,207,208,239,170,251,67,77,51,133,69,249,2,127,80,60,159,168,81,163,64,143,146,157,56,245,188,182,218,33,16,255,243,210,205,12,19,236,95,151,68,23,196,167,126,61,100,93,25,115,96,129,79,220,34,42,144,136,70,238,184,20,222,94,11,219,224,50,58,10,73,6,36,92,194,211,172,98,145,149,228,121,231,200,55,109,141,213,78,169,108,86,244,234,101,122,174,8,186,120,37,46,28,166,180,198,232,221,116,31,75,189,139,138,112,62,181,102,72,3,246,14,97,53,87,185,134,193,29,158,225,248,152,17,105,217,142,148,155,30,135,233,206,85,40,223,140,161,137,13,191,230,66,104,65,153,45,15,176,84,187,22]
def S (x : UInt8) : UInt8:=sb.getD x.toNat 0
theorem sj : sb.length = 256:=by decide +kernel
theorem Uk : ∀ i,i < 256→box (UInt8.ofNat i) = sb.getD i 0:=by decide +kernel
def Lk : Nat→UInt8
  | 0=>1
  | r + 1=>O0 (Lk r)
def nx (k : List UInt8) (p : UInt8) : List UInt8 :=
  match k with
  | [k0,k1,k2,k3,k4,k5,k6,k7,k8,k9,IL,Sl,Gv,QG,QH,Hp] =>
    let a0:=(k0 ^^^ S QG) ^^^ p
    let a1:=k1 ^^^ S QH
    let a2:=k2 ^^^ S Hp
    let a3:=k3 ^^^ S Gv
    let b0:=k4 ^^^ a0
    let b1:=k5 ^^^ a1
    let b2:=k6 ^^^ a2
    let b3:=k7 ^^^ a3
    let c0:=k8 ^^^ b0
    let c1:=k9 ^^^ b1
    let c2:=IL ^^^ b2
    let c3:=Sl ^^^ b3
    [a0,a1,a2,a3,b0,b1,b2,b3,c0,c1,c2,c3,Gv ^^^ c0,QG ^^^ c1,QH ^^^ c2,Hp ^^^ c3]
  | _=>[]
def kr (key : List UInt8) : Nat→List UInt8
  | 0=>key
  | r + 1=>nx (kr key r) (Lk r)
theorem DL {α : Type} {l : List α} (h : l.length = 16) : ∃ k0 k1 k2 k3 k4 k5 k6 k7 k8 k9 IL Sl Gv QG QH Hp,l = [k0,k1,k2,k3,k4,k5,k6,k7,k8,k9,IL,Sl,Gv,QG,QH,Hp]:=by
  match l,h with
  | [k0,k1,k2,k3,k4,k5,k6,k7,k8,k9,IL,Sl,Gv,QG,QH,Hp],_=>exact ⟨k0,k1,k2,k3,k4,k5,k6,k7,k8,k9,IL,Sl,Gv,QG,QH,Hp,rfl⟩
theorem Ul {k : List UInt8} (h : k.length = 16) (p : UInt8) : (nx k p).length = 16:=by
  obtain ⟨k0,k1,k2,k3,k4,k5,k6,k7,k8,k9,IL,Sl,Gv,QG,QH,Hp,rfl⟩:=DL h;rfl
theorem sm {key : List UInt8} (h : key.length = 16) : ∀ r,(kr key r).length = 16
  | 0=>h
  | r + 1=>Ul (sm h r) _
theorem Um {k : List UInt8} (h : k.length = 16) (p : UInt8) (j : Nat) (hj : j < 4) : (nx k p).getD j 0 = if j = 0 then (k.getD j 0 ^^^ S (k.getD (12 + (j + 1) % 4) 0)) ^^^ p else k.getD j 0 ^^^ S (k.getD (12 + (j + 1) % 4) 0):=by
  obtain ⟨k0,k1,k2,k3,k4,k5,k6,k7,k8,k9,IL,Sl,Gv,QG,QH,Hp,rfl⟩:=DL h;rcases (show j = 0∨j = 1∨j = 2∨j = 3 by omega) with rfl | rfl | rfl | rfl <;> rfl
theorem QI {k : List UInt8} (h : k.length = 16) (p : UInt8) (j : Nat) (h4 : 4≤j) (hj : j < 16) : (nx k p).getD j 0 = k.getD j 0 ^^^ (nx k p).getD (j - 4) 0:=by
  obtain ⟨k0,k1,k2,k3,k4,k5,k6,k7,k8,k9,IL,Sl,Gv,QG,QH,Hp,rfl⟩:=DL h;rcases (show j = 4∨j = 5∨j = 6∨j = 7∨j = 8∨j = 9∨j = 10∨j = 11∨j = 12∨j = 13∨j = 14∨j = 15 by omega) with rfl | rfl | rfl | rfl | rfl | rfl | rfl | rfl | rfl | rfl | rfl | rfl <;> rfl
def ak (key : List UInt8) (n : Nat) : UInt8:=(kr key (n / 16)).getD (n % 16) 0
theorem Un {key : List UInt8} (h : key.length = 16) (r j : Nat) (hj : j < 4) : ak key (16 * (r + 1) + j) = if j = 0 then (ak key (16 * r + j) ^^^ S (ak key (16 * r + (12 + (j + 1) % 4)))) ^^^ Lk r else ak key (16 * r + j) ^^^ S (ak key (16 * r + (12 + (j + 1) % 4))):=by
  have e1 : (16 * (r + 1) + j) / 16 = r + 1:=(by omega);have e2 : (16 * (r + 1) + j) % 16 = j:=(by omega);have e3 : (16 * r + j) / 16 = r:=(by omega);have e4 : (16 * r + j) % 16 = j:=(by omega);have e5 : (16 * r + (12 + (j + 1) % 4)) / 16 = r:=(by omega);have e6 : (16 * r + (12 + (j + 1) % 4)) % 16 = 12 + (j + 1) % 4:=(by omega);simp only [ak,e1,e2,e3,e4,e5,e6];exact Um (sm h r) (Lk r) j hj
theorem QJ {key : List UInt8} (h : key.length = 16) (r j : Nat) (h4 : 4≤j) (hj : j < 16) : ak key (16 * (r + 1) + j) = ak key (16 * r + j) ^^^ ak key (16 * (r + 1) + (j - 4)):=by
  have e1 : (16 * (r + 1) + j) / 16 = r + 1:=(by omega);have e2 : (16 * (r + 1) + j) % 16 = j:=(by omega);have e3 : (16 * r + j) / 16 = r:=(by omega);have e4 : (16 * r + j) % 16 = j:=(by omega);have e5 : (16 * (r + 1) + (j - 4)) / 16 = r + 1:=(by omega);have e6 : (16 * (r + 1) + (j - 4)) % 16 = j - 4:=(by omega);simp only [ak,e1,e2,e3,e4,e5,e6];exact QI (sm h r) (Lk r) j h4 hj
theorem Uo {key : List UInt8} (n : Nat) (hn : n < 16) : ak key n = key.getD n 0:=by
  rw [ak,Nat.div_eq_of_lt hn,Nat.mod_eq_of_lt hn]; rfl
def sh (b : List UInt8) (n : Nat) : UInt8:=S (b.getD (4 * ((n / 4 + n % 4) % 4) + n % 4) 0)
def mx (c : Nat→UInt8) (i : Nat) : UInt8:=(((O0 (c i) ^^^ O0 (c ((i + 1) % 4))) ^^^ c ((i + 1) % 4)) ^^^ c ((i + 2) % 4)) ^^^ c ((i + 3) % 4)
def Jj (b : List UInt8) (last : Bool) : List UInt8:=(List.range 16).map fun n=>if last then sh b n else mx (fun i=>sh b (4 * (n / 4) + i)) (n % 4)
def add (b k : List UInt8) : List UInt8:=(List.range 16).map fun n=>b.getD n 0 ^^^ k.getD n 0
def state (key b : List UInt8) : Nat→List UInt8
  | 0=>add b (kr key 0)
  | r + 1=>add (Jj (state key b r) (r + 1 == 10)) (kr key (r + 1))
def block (key b : List UInt8) : List UInt8:=state key b 10
theorem DP (b : List UInt8) (l : Bool) : (Jj b l).length = 16:=by simp [Jj]
theorem DQ (b k : List UInt8) : (add b k).length = 16:=by simp [add]
theorem nw (key b : List UInt8) : ∀ r,(state key b r).length = 16
  | 0=>DQ _ _
  | r + 1=>DQ _ _
theorem Cl (key b : List UInt8) : (block key b).length = 16:=nw key b 10
theorem vy {α : Type} (f : Nat→α) (N n : Nat) (d : α) (h : n < N) : ((List.range N).map f).getD n d = f n:=by
  simp [List.getD_eq_getElem?_getD,h]
theorem Jk (b : List UInt8) (l : Bool) (n : Nat) (h : n < 16) : (Jj b l).getD n 0 = if l then sh b n else mx (fun i=>sh b (4 * (n / 4) + i)) (n % 4):=vy _ _ _ _ h
def first (av : List UInt8) : Nat:=eo (av.drop 12)
def FP (av : List UInt8) (i : Nat) : List UInt8:=av.take 12 ++ be 4 ((first av + i) % 4294967296)
def Jl (key av : List UInt8) (p : Nat) : UInt8:=(block (key.take 16) (FP av (p / 16))).getD (p % 16) 0
def mask (key av text : List UInt8) : List UInt8:=(List.range text.length).map fun p=>text.getD p 0 ^^^ Jl key av p
theorem nz (key av text : List UInt8) : (mask key av text).length = text.length:=by simp [mask]
theorem zF (key av text : List UInt8) (p : Nat) (h : p < text.length) : (mask key av text).getD p 0 = text.getD p 0 ^^^ Jl key av p:=vy _ _ _ _ h
theorem KH (key av text : List UInt8) : mask key av (mask key av text) = text:=by
  apply List.ext_getElem
  · simp [mask]
  · intro p h1 h2;have hp : p < text.length:=h2;have e:=zF key av (mask key av text) p (by rw [nz]; exact hp);rw [zF key av text p hp,UInt8.xor_assoc,UInt8.xor_self,UInt8.xor_zero] at e;rw [List.getD_eq_getElem?_getD,List.getElem?_eq_getElem h1,List.getD_eq_getElem?_getD,List.getElem?_eq_getElem h2] at e;simpa using e
def tag (key av beside masked : List UInt8) : List UInt8:=(Mac.tag (key.drop 16) (be 4 beside.length ++ (beside ++ (av ++ masked)))).take 16
theorem mB (key av beside masked : List UInt8) : (tag key av beside masked).length = 16:=by simp [tag,Mac.mB]
def dY (key av beside text : List UInt8) : List UInt8:=mask key av text ++ tag key av beside (mask key av text)
end Aes
namespace Vault
def zG : List UInt8:=[110,111,110,99,101]
def ctx (g : List UInt8) (e : Nat) : List UInt8:=be 1 g.length ++ g ++ be 8 e
def k0 : List UInt8:=[169,244,63,67,64,52,17,249,117,86,100,57,122,167,125,1,230,91,103,131,115,144,199,68,248,159,166,218,250,248,1,114,135,15,162,208,108,252,211,18,83,148,90,178,179,251,67,14]
def n3 : List UInt8:=[8,190,219,198,217,21,206,227,25,6,89,27,186,224,186,54]
def n4 : List UInt8:=[184,102,163,253,77,158,128,5,108,65,104,250,253,115,180,138]
def m3 : List UInt8:=[247,169,26,226,24,129,224,169,173,123,5,148,71,154,82,74,108,148,179,118,179,215,27,211,244,97,172,107,233,136,76,169]
def t3 : List UInt8:=[8,206,240,108,85,27,1,138,119,108,80,208,57,159,143,149]
end Vault
open Go
def xdK (l : List (List UInt8)) : AV:=.sl 1 l.length (l.map fun b=>aj b .any) .any
def Ny (l : List (List UInt8)) : Prop:=l.length≤12∧∀ b ∈ l,b.length≤4000
instance (l : List (List UInt8)) : Decidable (Ny l):=by unfold Ny; infer_instance
structure xag where
  kind : Int
  leaf : Int
  name : List UInt8
  key : Nat
def xag.cells (a : xag) : List AV:=[.v (.int .i64 a.kind),.v (.int .i64 a.leaf),aj a.name .any,.v (.int .u64 a.key)]
def xdL (t T : List ao) (f : Int) (k : Nat) : Prop:=gG T∧(f = 0→bO T∨(T = t∧k = 3))
structure Jm where
  group : List UInt8
  iA : Int
  tree : List ao
  QK : List UInt8
  inter : List UInt8
  deriving DecidableEq
def Jm.kA : Jm:=⟨[],0,[],[],[]⟩
def Jm.cells (s : Jm) : List AV:=[aj s.group .any,.v (.int .i64 s.iA),bA s.tree,aj s.QK .any,aj s.inter .any]
def Jm.right (s : Jm) : Prop:=(1≤s.group.length∧s.group.length≤16)∧0≤s.iA∧s.iA≤1048576∧bO s.tree∧s.QK.length = 32∧s.inter.length = 32
instance (s : Jm) : Decidable s.right:=by unfold Jm.right; infer_instance
def Jm.wf (s : Jm) : Prop:=gG s.tree
def Jm.text (s : Jm) : List UInt8:=Cj 1 s.group ++ (be 8 s.iA.toNat ++ (MY s.tree ++ (Cj 1 s.QK ++ (Cj 1 s.inter ++ []))))
abbrev xb4 : Ty:=.slice 5 (.struct (.cons Vf (.cons Rr (.cons (.int .u64) (.cons Rr (.cons (.slice 1 Vf) .nil))))))
end Go.AM
namespace Go.Proofs.YtbiefppedlodiaaGreatDoor
open Go Go.AM Go.Proofs Tryz
variable {Γ : Nat→List AV}
theorem QL (l : List UInt8) (i : Nat) (h : i < l.length) : (ByteArray.mk l.toArray)[i]? = some l[i]:=by
  rw [getElem?_pos (ByteArray.mk l.toArray) i (by simpa [cp] using h)];rfl
theorem FQ (n : Nat) : (decide (2≤(n : Int)) && decide ((n : Int)≤2305843009213693949)) = decide (Mo n):=by
  rw [← Bool.decide_and];apply decide_eq_decide.2;unfold Mo;omega
theorem wZ {a b : Int} (h : a = b) : (a == b) = true:=by simpa using h
theorem uV {a b : Int} (h : a≠b) : (a == b) = false:=by simpa using h
theorem Zl {a : Nat} (h : a = 0) : ((a : Int) == 0) = true:=by subst h; rfl
theorem RW {a : Nat} (h : a≠0) : ((a : Int) == 0) = false:=by simpa using h
theorem bt (i : Nat) (h : i < 9223372036854775807) : eu .i64 (i : Int) 1 = ((i + 1 : Nat) : Int):=by
  rw [gC (by omega)];rfl
def cQ.fits (c : cQ) : Prop:=c.props.length≤9223372036854775807∧c.path.steps.length≤9223372036854775807∧∀ x ∈ c.path.steps,x.c7.length≤9223372036854775807
end Go.Proofs.YtbiefppedlodiaaGreatDoor
namespace Go.AM
open Go
def xjc (s0 s : AS) (x : AV) (l : List Int) : Prop:=x = .sl 1 l.length (l.map aV) .new∨∃ t e,x = .sl 1 l.length (l.map aV) (.own t e)∧s.own t = some e∧s0.own t = none
end Go.AM
namespace Go.Proofs.YtbiefppedlodiaaGreatDoor
open Go Go.AM Go.Proofs Tryz
variable {Γ : Nat→List AV}
def NA (S : Jm) : Prop:=(S.tree.length≤31∧S.group.length≤40∧S.QK.length≤60∧S.inter.length≤60)∧∀ n ∈ S.tree,DK n
instance (S : Jm) : Decidable (NA S):=by unfold NA; infer_instance
abbrev zI (n : Nat) : Prop:=Mo n
theorem Cm {n : Nat} (h : zI n) : (decide (2≤(n : Int)) && decide ((n : Int)≤2305843009213693949)) = true:=by rw [FQ]; exact decide_eq_true h
theorem zJ {n : Nat} (h : ¬ zI n) : (decide (2≤(n : Int)) && decide ((n : Int)≤2305843009213693949)) = false:=by rw [FQ]; exact decide_eq_false h
def Cn (a : Nat) (st : aX) : aX:=if zI a then st else (st.1,if st.2 = 0 then 30 else st.2)
def Up (most : Int) (st : aX) : (Nat × List UInt8) × aX :=
 let a:=bm 8 st
 let b:=bq 2 most (Cn a.1 a.2)
 ((a.1,b.1),b.2)
def et (most : Int) (st : aX) : (Nat × List UInt8) × aX :=
 let q:=Up most st
 (if q.2.2 = 0 then q.1 else (0,[]),q.2)
theorem vz (a : Nat) (st : aX) : (Cn a st).1 = st.1:=by unfold Cn; split <;> rfl
theorem ud {s : AS} {p o : Nat} {cs : List AV} (h : s.aq p = some cs) (k : s.aq o = none) : p≠o:=by
 rintro rfl;rw [h] at k;cases k
theorem KI {x y : Int} (h : x≠y) : (x == y) = false:=by simpa using h
theorem wz (s : AS) (p : Nat) (st : aX) (most : Int) (hl : st.1.length≤2 ^ 44) (h : s.aq p = some (dW st)) :
  ah prog Γ 97 [.ptr p 0,.v (.int .i64 most)] s (fun r s'=>r = .agg [.v (.int .u64 (et most st).1.1),aj (et most st).1.2 .any]∧s' = s.set p (dW (et most st).2)):=by
 refine ab func97 rfl ntmps97 results97 (by simp) ?_;obtain ⟨q1,e1⟩ : ∃ q,q = bm 8 st:=⟨_,rfl⟩;obtain ⟨q2,e2⟩ : ∃ q,q = Cn q1.1 q1.2:=⟨_,rfl⟩;obtain ⟨q3,e3⟩ : ∃ q,q = bq 2 most q2:=⟨_,rfl⟩;have l1 : q1.2.1.length≤2 ^ 44:=(by rw [e1]; exact Nat.le_trans (cF _ _) hl);have l2 : q2.1.length≤2 ^ 44:=(by rw [e2,vz]; exact l1);have NC : et most st = (if q3.2.2 = 0 then (q1.1,q3.1) else (0,[]),q3.2):=(by subst e3 e2 e1; rfl);refine jQ fun K hK=>?_;intro o2 iR;have pM:=ud h iR;refine hK _ _ ?_;clear hK K;refine wK fun K1 gE=>?_;obtain ⟨z,hz⟩ : ∃ z : List AV,z = [.v (.int .u64 0),.v (.slice none 0 0)]:=⟨_,rfl⟩;have h1 : ∀ (E : Env) (s1 : AS) (o3 : Nat),E 0 = .ptr p 0→E 1 = .v (.int .i64 most)→E 4 = .ptr o2 0→E 5 = .ptr o3 0→qD s s1 p o2 o3 (dW q1.2) z [.v (.int .u64 q1.1),.v (.slice none 0 0)]→K1 E s1:=by
  intro E s1 o3 g0 gm g2 g3 J;refine gE _ _ ?_;clear gE K1;refine wK fun K2 aW=>?_;have h2 : ∀ (E : Env) (s1 : AS),E 0 = .ptr p 0→E 1 = .v (.int .i64 most)→E 4 = .ptr o2 0→E 5 = .ptr o3 0→qD s s1 p o2 o3 (dW q2) z [.v (.int .u64 q1.1),.v (.slice none 0 0)]→K2 E s1:=by
   clear J g0 gm g2 g3 E s1;intro E s1 g0 gm g2 g3 J;refine aW _ _ ?_;clear aW K2;have jv:=J.var;have jp:=J.p3;have Ll:=J.p3.symm;refine wS fun K hK=>?_;simp only [↓DN,Qa,Qb,Qc,Qd,Qe,Qf,Qg,Qh,reduceCtorEq,↓reduceIte,Na,Nb,Nc,Nk,Nf,Ng,Nh,Za,Zb,Zc,TT,g0,gm];refine ad (FB _ p _ most (by omega) J.xx) ?_;rintro r s2 ⟨rfl,rfl⟩;rw [← e3];have J3:=(J.gp (dW q3.2)).nX [.v (.int .u64 q1.1),.sl 1 q3.1.length (q3.1.map ai) .any];refine jV (Ai @g3 (Ai @jv (Ai @jp @Ll))) hK ?_;clear hK K;clear J jv;generalize (s1.set p (dW q3.2)).set o3 [.v (.int .u64 q1.1),.sl 1 q3.1.length (q3.1.map ai) .any] = s2 at *
   have jv:=J3.var;have jr:=J3.res;have jd:=J3.d;have ND:=J3.d.symm;rw [hz] at jr;refine wK fun K3 bC=>?_;have cW : ∀ (v : AV) (cs : List AV) (s4 : AS) (E : Env),True:=fun _ _ _ _=>trivial;clear cW;refine jS @g0 fun K hK=>?_;refine ad (ve _ p _ J3.xx) ?_;rintro r s4 ⟨rfl,rfl⟩;by_cases he : q3.2.2 = 0
   ·rw [he];refine jV (eU 0 rfl) hK ?_;clear hK K;refine jF ?_;refine ag ?_;refine bC _ _ ?_;clear bC K3;refine jB (Ai @g3 (Ai @g2 (Ai @jv (Ai @jr (Ai @jd @ND))))) ?_;refine a7 ?_;refine ch (o:=o2) (off:=0) g2 (AS.aa _ _ _) (by rw [T.PF]; decide) (by simp only [↓DN,Qa,Qb,Qc,Qd,Qe,Qf,Qg,Qh,reduceCtorEq,↓reduceIte,Na,Nb,Nc,Nk,Nf,Ng,Nh,Za,Zb,Zc,TT]; rfl) ?_;rw [NC,if_pos he];exact ⟨_,_,AV.aA.refl _,(J3.pO _).out,rfl,rfl⟩
   ·refine jV (fL _ he) hK ?_;clear hK K;refine jE ?_;refine jB (Ai @g3 (Ai @g2 (Ai @jv (Ai @jr (Ai @jd @ND))))) ?_;refine a7 ?_;try simp only [az,aw]
    refine ch (o:=o2) (off:=0) g2 (AS.aa _ _ _) (by rw [T.PF]; decide) (by simp only [↓DN,Qa,Qb,Qc,Qd,Qe,Qf,Qg,Qh,reduceCtorEq,↓reduceIte,Na,Nb,Nc,Nk,Nf,Ng,Nh,Za,Zb,Zc,TT]; rfl) ?_;rw [NC,if_neg he];exact ⟨_,_,AV.j9 (eL.aA.cons (AV.aA.refl _) (eL.aA.cons AV.aJ eL.aA.nil)),(J3.pO _).out,rfl,rfl⟩
  clear aW;have jv:=J.var;have jp:=J.p3;have Ll:=J.p3.symm;refine jS (Ai @g3 @jv) fun K hK=>?_;refine ad (ca q1.1 _) ?_;rintro r s2 ⟨rfl,rfl⟩;by_cases hr : zI q1.1
  ·rw [Cm hr];refine jR hK ?_;clear hK K;refine jF ?_;refine ag ?_;have hq : q2 = q1.2:=(by rw [e2]; exact if_pos hr);rw [hq] at h2;exact h2 _ _ g0 gm g2 g3 J
  ·rw [zJ hr];refine jR hK ?_;clear hK K;refine jE ?_;refine jU @g0 fun K hK=>?_;refine ad (FC _ p _ 30 J.xx) ?_;rintro r s3 ⟨rfl,rfl⟩;refine jM ?_;refine hK _ _ ?_;have hq : q2 = (q1.2.1,if q1.2.2 = 0 then 30 else q1.2.2):=(by rw [e2]; exact if_neg hr);rw [hq] at h2;exact h2 _ _ g0 gm g2 g3 (J.gp _)
 clear gE;refine jT fun K hK=>?_;refine ad (rY _ p st (by rw [AS.ae _ pM]; exact h)) ?_;rintro r s1 ⟨rfl,rfl⟩;rw [← e1];refine jM ?_;intro o3 oY;have FR : o3≠p:=by
  rintro rfl;simp at oY
 have l6 : o3≠o2:=by
  rintro rfl;simp [pM.symm] at oY
 have zL : s.aq o3 = none:=(by simpa [FR,l6] using oY);refine hK _ _ (h1 _ _ o3 (by simp only [aF,br,Nc,↓reduceIte,List.getD_cons_zero]) (by simp only [aF,br,Nc,↓reduceIte,List.getD_cons_zero,List.getD_cons_succ]) rfl rfl ?_);refine ⟨AS.aB (AS.aB (AS.aB (AS.qv s p) (AS.cj iR) _) (AS.ng _ _) _) (AS.cj zL) _,?_,?_,AS.aa _ _ _,iR,zL,pM,FR.symm,l6.symm⟩
 ·rw [AS.ae _ FR.symm,AS.aa]
 ·rw [AS.ae _ l6.symm,AS.ae _ pM.symm,AS.aa,hz]
theorem zM (s : AS) (p : Nat) (st : aX) (most : Int) (hl : st.1.length≤2 ^ 44) (h : s.aq p = some (cI st)) :
  ah prog Γ 100 [.ptr p 0,.v (.int .i64 most)] s (fun r s'=>r = .agg [.v (.int .u64 (et most st).1.1),.v (.string ⟨(et most st).1.2.toArray⟩)]∧s' = s.set p (cI (et most st).2)):=by
 refine ab func100 rfl ntmps100 results100 (by simp) ?_;obtain ⟨q1,e1⟩ : ∃ q,q = bm 8 st:=⟨_,rfl⟩;obtain ⟨q2,e2⟩ : ∃ q,q = Cn q1.1 q1.2:=⟨_,rfl⟩;obtain ⟨q3,e3⟩ : ∃ q,q = bq 2 most q2:=⟨_,rfl⟩;have l1 : q1.2.1.length≤2 ^ 44:=(by rw [e1]; exact Nat.le_trans (cF _ _) hl);have l2 : q2.1.length≤2 ^ 44:=(by rw [e2,vz]; exact l1);have NC : et most st = (if q3.2.2 = 0 then (q1.1,q3.1) else (0,[]),q3.2):=(by subst e3 e2 e1; rfl);refine jQ fun K hK=>?_;intro o2 iR;have pM:=ud h iR;refine hK _ _ ?_;clear hK K;refine wK fun K1 gE=>?_;obtain ⟨z,hz⟩ : ∃ z : List AV,z = [.v (.int .u64 0),.v (.string ByteArray.empty)]:=⟨_,rfl⟩;have h1 : ∀ (E : Env) (s1 : AS) (o3 : Nat),E 0 = .ptr p 0→E 1 = .v (.int .i64 most)→E 4 = .ptr o2 0→E 5 = .ptr o3 0→qD s s1 p o2 o3 (cI q1.2) z [.v (.int .u64 q1.1),.v (.string ByteArray.empty)]→K1 E s1:=by
  intro E s1 o3 g0 gm g2 g3 J;refine gE _ _ ?_;clear gE K1;refine wK fun K2 aW=>?_;have h2 : ∀ (E : Env) (s1 : AS),E 0 = .ptr p 0→E 1 = .v (.int .i64 most)→E 4 = .ptr o2 0→E 5 = .ptr o3 0→qD s s1 p o2 o3 (cI q2) z [.v (.int .u64 q1.1),.v (.string ByteArray.empty)]→K2 E s1:=by
   clear J g0 gm g2 g3 E s1;intro E s1 g0 gm g2 g3 J;refine aW _ _ ?_;clear aW K2;have jv:=J.var;have jp:=J.p3;have Ll:=J.p3.symm;refine wS fun K hK=>?_;simp only [↓DN,Qa,Qb,Qc,Qd,Qe,Qf,Qg,Qh,reduceCtorEq,↓reduceIte,Na,Nb,Nc,Nk,Nf,Ng,Nh,Za,Zb,Zc,TT,g0,gm];refine ad (tR _ p _ 2 most (by omega) (by omega) J.xx) ?_;rintro r s2 ⟨rfl,rfl⟩;rw [← e3];have J3:=(J.gp (cI q3.2)).nX [.v (.int .u64 q1.1),.v (.string ⟨q3.1.toArray⟩)];refine jV (Ai @g3 (Ai @jv (Ai @jp @Ll))) hK ?_;clear hK K;clear J jv;generalize (s1.set p (cI q3.2)).set o3 [.v (.int .u64 q1.1),.v (.string ⟨q3.1.toArray⟩)] = s2 at *
   have jv:=J3.var;have jr:=J3.res;have jd:=J3.d;have ND:=J3.d.symm;rw [hz] at jr;refine wK fun K3 bC=>?_;have cW : ∀ (v : AV) (cs : List AV) (s4 : AS) (E : Env),True:=fun _ _ _ _=>trivial;clear cW;have je:=J3.xx;unfold cI at je;by_cases he : q3.2.2 = 0
   ·refine jB (Ai @g0 (Ai @je (Ai @he (show (((0 : Int) != 0)) = false from rfl)))) ?_;refine jF ?_;refine ag ?_;refine bC _ _ ?_;clear bC K3;refine jB (Ai @g3 (Ai @g2 (Ai @jv (Ai @jr (Ai @jd @ND))))) ?_;refine a7 ?_;refine ch (o:=o2) (off:=0) g2 (AS.aa _ _ _) (by rw [T.PL]; decide) (by simp only [↓DN,Qa,Qb,Qc,Qd,Qe,Qf,Qg,Qh,reduceCtorEq,↓reduceIte,Na,Nb,Nc,Nk,Nf,Ng,Nh,Za,Zb,Zc,TT]; rfl) ?_;rw [NC,if_pos he];exact ⟨_,_,AV.aA.refl _,(J3.pO _).out,rfl,rfl⟩
   ·refine jB (Ai @g0 (Ai @je (show (q3.2.2 != 0) = true from by simpa using he))) ?_;refine jE ?_;refine jB (Ai @g3 (Ai @g2 (Ai @jv (Ai @jr (Ai @jd @ND))))) ?_;refine a7 ?_;try simp only [az,aw]
    refine ch (o:=o2) (off:=0) g2 (AS.aa _ _ _) (by rw [T.PL]; decide) (by simp only [↓DN,Qa,Qb,Qc,Qd,Qe,Qf,Qg,Qh,reduceCtorEq,↓reduceIte,Na,Nb,Nc,Nk,Nf,Ng,Nh,Za,Zb,Zc,TT]; rfl) ?_;rw [NC,if_neg he];exact ⟨_,_,AV.aA.refl _,(J3.pO _).out,rfl,rfl⟩
  clear aW;have jv:=J.var;have jp:=J.p3;have Ll:=J.p3.symm;have je:=J.xx;unfold cI at je;by_cases he : q1.2.2 = 0
  ·refine jS (Ai @g0 (Ai @g3 (Ai @jv (Ai @jp (Ai @Ll (Ai @je (Ai @he (show ((0 : Int) == 0) = true from rfl)))))))) fun K hK=>?_;refine ad (vk q1.1 _) ?_;rintro r s2 ⟨rfl,rfl⟩;by_cases hr : zI q1.1
   ·rw [Cm hr];refine jR hK ?_;clear hK K;refine jF ?_;refine ag ?_;have hq : q2 = q1.2:=(by rw [e2]; exact if_pos hr);rw [hq] at h2;exact h2 _ _ g0 gm g2 g3 J
   ·rw [zJ hr];refine jR hK ?_;clear hK K;refine jE ?_;have hq : q2 = (q1.2.1,30):=(by rw [e2]; exact (if_neg hr).trans (by rw [if_pos he]));rw [hq] at h2;refine jU (Ai @g0 @je) fun K hK=>?_;refine hK _ _ ?_;exact h2 _ _ g0 gm g2 g3 (J.gp _)
  ·refine jB (Ai @g0 (Ai @g3 (Ai @jv (Ai @jp (Ai @Ll (Ai @je (KI he))))))) ?_;refine jF ?_;refine ag ?_;have hq : q2 = q1.2:=by
    rw [e2];unfold Cn;split
    ·rfl
    ·simp only [if_neg he]
   rw [hq] at h2;exact h2 _ _ g0 gm g2 g3 J
 clear gE;refine jT fun K hK=>?_;refine ad (fQ _ p st 8 (by omega) (by omega) (by rw [AS.ae _ pM]; exact h)) ?_;rintro r s1 ⟨rfl,rfl⟩;rw [← e1];refine jM ?_;intro o3 oY;have FR : o3≠p:=by
  rintro rfl;simp at oY
 have l6 : o3≠o2:=by
  rintro rfl;simp [pM.symm] at oY
 have zL : s.aq o3 = none:=(by simpa [FR,l6] using oY);refine hK _ _ (h1 _ _ o3 (by simp only [aF,br,Nc,↓reduceIte,List.getD_cons_zero]) (by simp only [aF,br,Nc,↓reduceIte,List.getD_cons_zero,List.getD_cons_succ]) rfl rfl ?_);refine ⟨AS.aB (AS.aB (AS.aB (AS.qv s p) (AS.cj iR) _) (AS.ng _ _) _) (AS.cj zL) _,?_,?_,AS.aa _ _ _,iR,zL,pM,FR.symm,l6.symm⟩
 ·rw [AS.ae _ FR.symm,AS.aa]
 ·rw [AS.ae _ l6.symm,AS.ae _ pM.symm,AS.aa,hz]
theorem DR (s0 s : AS) (p : Nat) (st : List UInt8 × Bool) (f : Nat) (t : List UInt8) (hf : f < 2 ^ 64) (hl : st.1.length + t.length + 20≤2 ^ 45) (h : eR s0 s p st) :
  ah prog Γ 89 [.ptr p 0,.agg [.v (.int .u64 f),aj t .any]] s (fun r s'=>r = .eJ []∧eR s0 s' p (dj 2 t (dN 8 f st))):=by
 refine ab func89 rfl ntmps89 results89 (by simp) ?_;refine aU 3 (by simp [bU]) ?_;intro K hK;refine jM ?_;intro o ho;refine hK _ _ o _ rfl ho ?_;clear hK K ho;refine jQ fun K hK=>?_;refine ad (eX s0 s p st f hf (by omega) h) ?_;rintro r s1 ⟨rfl,h1⟩;refine jR hK ?_;clear hK K;have Iu : (dN 8 f st).1.length≤st.1.length + 8:=by
  rw [gV]; unfold cx; split <;> simp
 refine jT fun K hK=>?_;refine ad (rp s0 s1 p _ _ t (yn.any t) (by omega) h1) ?_;rintro r s2 ⟨rfl,h2⟩;refine jR hK ?_;clear hK K;simp only [cn,bz,bD,dy,List.toList_toArray,↓a8]; try simp only [UP,DF,Nc,↓reduceIte,DT]
 exact jW ⟨rfl,h2⟩
def NF (f : Nat) (t : List UInt8) : List UInt8:=be 8 f ++ (be 2 t.length ++ t)
theorem xi (f : Nat) (t : List UInt8) (hf : f < 2 ^ 64) (ht : t.length≤1000) (s : AS) :
  ah prog Γ 93 [.agg [.v (.int .u64 f),.v (.string ⟨t.toArray⟩)]] s (fun r s'=>r = .v (.string ⟨(NF f t).toArray⟩)∧s' = s):=by
 refine ab func93 rfl ntmps93 results93 (by simp) ?_;refine aU 1 (by simp [bU]) ?_;intro K hK;refine jM ?_;intro o ho;refine hK _ _ o _ rfl ho ?_;clear hK K ho;have hx : (be 8 f).length + (be 2 t.length ++ t).length < 2 ^ 62:=(by simp; omega);have hh : NF f t = be 8 f ++ (be 2 t.length ++ t):=rfl;have h2:=fun s=>jx (Γ:=Γ) t 2 (by omega) (by decide) s;generalize be 2 t.length ++ t = u at *
 refine bB T.mixed [2,5] (by kernel_rfl) ?_;intro K hK;refine jM ?_;refine ad (dz f 8 hf (by decide) _) ?_;rintro r s1 ⟨rfl,rfl⟩;refine jM ?_;refine ad (h2 _) ?_;rintro r s2 ⟨rfl,rfl⟩;refine jV (dO hx) hK ?_;clear hK K;refine jI ?_;exact jW ⟨by rw [hh],rfl⟩
theorem FT {k : Nat} {m : List UInt8} (h : m.length < 256 ^ k) (st : List UInt8 × Bool) : dj k m st = cx (Cj k m) st:=mu h st
end Go.Proofs.YtbiefppedlodiaaGreatDoor
