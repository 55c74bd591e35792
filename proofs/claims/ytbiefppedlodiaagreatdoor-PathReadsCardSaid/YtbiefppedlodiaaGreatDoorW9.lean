/- Contracts of functions, each walked once; each theorem states its conditions. -/
import Derived.Test.YtbiefppedlodiaaGreatDoorAMp6
import Derived.Test.YtbiefppedlodiaaGreatDoorW1
import Derived.Test.YtbiefppedlodiaaGreatDoorW8
import Derived.Test.YtbiefppedlodiaaGreatDoorW2
import Derived.Test.YtbiefppedlodiaaGreatDoorW7
import Derived.Test.YtbiefppedlodiaaGreatDoorW5
import Derived.Test.YtbiefppedlodiaaGreatDoorAMp5
import Derived.Test.YtbiefppedlodiaaGreatDoorW3
import Derived.Test.YtbiefppedlodiaaGreatDoorAMp7
set_option linter.unusedSimpArgs false
set_option linter.unusedVariables false
open Nat renaming reduceLT → Na, reduceLeDiff → Nb, reduceEqDiff → Nc, reduceAdd → Nk, reduceMul → Nf, reducePow → Ng, reduceSub → Nh, reduceBEq → Nz
open Int renaming reduceLT → Za, reduceLE → Zb, reduceToNat → Zc
open And renaming intro → Ai
open Go.AM renaming ashift → Qa, aconv → Qb, aindexAddr → Qc, aindex → Qd, aslice → Qe, abuiltin → Qf, awp_reg_seq → wS, awp_reg_end → wE, awp_seq_k → wK, awp_cond_k → wC
open Go.AM.AV renaming cells → Qg, one → Qh
set_option maxRecDepth 100000
set_option maxHeartbeats 8000000
namespace Go.Proofs.YtbiefppedlodiaaGreatDoor
open Go Go.AM Go.Proofs Tryz
variable {Γ : Nat→List AV}
theorem uk : ((0 : Int) == 1) = false:=rfl
theorem F4 (m : Nat) (hm : m < 2 ^ 64) : nC .u64 (m : Int) 2 = ((m / 2 : Nat) : Int):=LB rfl m 2 hm
theorem F5 (n : Nat) : mV (n : Int) 2305843009213693951 = ((n % PP : Nat) : Int):=nO n 2305843009213693951
theorem D4 (n : Nat) : mV (n : Int) 2 = ((n % 2 : Nat) : Int):=nO n 2
theorem um (a b : Nat) (ha : a < 2 ^ 64) (hb : b < 2 ^ 64) (s : AS) : ah prog Γ 126 [.v (.int .u64 a),.v (.int .u64 b)] s (fun r s'=>r = .v (.int .u64 (a * b % PP : Nat))∧s' = s):=by
 have hPP : PP = 2305843009213693951:=rfl;refine ab func126 rfl ntmps126 results126 (by simp) ?_;refine jA ?_;refine jB @F5 ?_;refine jB @F5 ?_;refine jA ?_;refine wK fun K hK=>?_;refine al ?_;refine aE (fun E s1=>∃ o b' m : Nat,E 5 = .v (.int .u64 o)∧E 0 = .v (.int .u64 b')∧E 1 = .v (.int .u64 m)∧o < PP∧b' < PP∧m < 2 ^ 64∧(o + b' * m) % PP = a * b % PP∧s1 = s)
  (fun E _=>match E 1 with | .v (.int _ i)=>i.toNat | _=>0) ?_ ?_
 ·exact ⟨0,a % PP,b % PP,by simp [aF],by simp [aF],by simp [aF],by decide,dh _,by have:=dh b; omega,by rw [Nat.zero_add,← Nat.mul_mod],rfl⟩
 ·rintro E1 s1 ⟨o,b',m,h5,h0,h1,ho,Pu,hm,hinv,rfl⟩ -
  refine wK fun K2 aW=>?_;by_cases uv : m = 0
  ·subst uv;refine jB (Ai @h5 (Ai @h0 (Ai @h1 (Ai @Int.natCast_zero @Int.lt_irrefl)))) ?_;refine jF ?_;refine aC ?_;simp only [az,aw,if_true];refine hK _ _ ?_;clear hK aW K K2;refine jB @h5 ?_;refine jI ?_;refine jW ⟨?_,rfl⟩;rw [← hinv];simp [Nat.mod_eq_of_lt ho]
  ·have yo : (0 : Int) < m:=(by omega);refine jB (Ai @h5 (Ai @h0 (Ai @h1 @yo))) ?_;refine jE ?_;refine ag ?_;refine aW _ _ ?_;clear aW K2;refine al ?_;refine wK fun K4 ei=>?_;have SH : ∀ (E2 : Env) (o2 : Nat),E2 5 = .v (.int .u64 o2)→E2 0 = .v (.int .u64 b')→E2 1 = .v (.int .u64 m)→o2 < PP→(o2 + (b' + b') % PP * (m / 2)) % PP = a * b % PP→K4 E2 s1:=by
    intro E2 o2 e5 e0 e1 iR z7;refine ei _ _ ?_;clear ei K4;refine jB (Ai @e0 (Ai (oB b' b' (by omega)) @F5)) ?_;refine jD (Ai @e1 (F4 m hm)) ?_;have Lt : (b' + b') % PP < PP:=dh _;refine ⟨⟨o2,(b' + b') % PP,m / 2,e5,rfl,rfl,iR,by omega,by omega,z7,rfl⟩,?_⟩;simp only [h1,aF,↓reduceIte];omega
   by_cases DZ : m % 2 = 1
   ·refine jB (Ai @h5 (Ai @h0 (Ai @h1 (Ai @D4 (Ai @DZ @Int.natCast_one))))) ?_;refine jE ?_;refine jD (Ai @h5 (Ai @h0 (Ai (oB o b' (by omega)) @F5))) ?_;refine SH _ ((o + b') % PP) rfl h0 h1 (dh _) ?_;rw [← hinv];have e : b' * m = b' + (b' + b') * (m / 2):=by
     have : m = 2 * (m / 2) + 1:=(by omega);conv=>lhs; rw [this]
     rw [Nat.mul_add,Nat.mul_one,← Nat.mul_assoc,Nat.mul_two,Nat.add_comm]
    rw [e,← Nat.add_assoc,Nat.add_mod,Nat.mod_mod,Nat.mod_mul_mod,← Nat.add_mod]
   ·have z8 : m % 2 = 0:=(by omega);refine jB (Ai @h5 (Ai @h0 (Ai @h1 (Ai @D4 (Ai @z8 (Ai @Int.natCast_zero @uk)))))) ?_;refine wC fun X Y hX hY=>?_;refine jP (Ai @DB @uk) ?_;refine hY ?_;clear hX hY X Y;refine ag ?_;refine SH _ o h5 h0 h1 ho ?_;rw [← hinv];have e : b' * m = (b' + b') * (m / 2):=by
     have : m = 2 * (m / 2):=(by omega);conv=>lhs; rw [this]
     rw [← Nat.mul_assoc,Nat.mul_two]
    rw [e,Nat.add_mod,Nat.mod_mul_mod,← Nat.add_mod]
theorem D5 (a n : Nat) (ha : a < 2 ^ 64) (hn : n < 2 ^ 64) (s : AS) : ah prog Γ 68 [.v (.int .u64 a),.v (.int .u64 n)] s (fun r s'=>r = .v (.int .u64 (a ^ n % PP : Nat))∧s' = s):=by
 have hPP : PP = 2305843009213693951:=rfl;refine ab func68 rfl ntmps68 results68 (by simp) ?_;refine jA ?_;refine jA ?_;refine jB @F5 ?_;refine wK fun K hK=>?_;refine al ?_;refine aE (fun E s1=>∃ o b m : Nat,E 5 = .v (.int .u64 o)∧E 0 = .v (.int .u64 b)∧E 1 = .v (.int .u64 m)∧o < PP∧b < 2 ^ 64∧m < 2 ^ 64∧o * b ^ m % PP = a ^ n % PP∧s1 = s)
  (fun E _=>match E 1 with | .v (.int _ i)=>i.toNat | _=>0) ?_ ?_
 ·exact ⟨1,a % PP,n,by simp [aF],by simp [aF],by simp [aF,br],by decide,by have:=dh a; omega,hn,by rw [Nat.one_mul,← Nat.pow_mod],rfl⟩
 ·rintro E1 s1 ⟨o,b,m,h5,h0,h1,ho,hb,hm,hinv,rfl⟩ -
  refine wK fun K2 aW=>?_;by_cases uv : m = 0
  ·subst uv;refine jB (Ai @h5 (Ai @h0 (Ai @h1 (Ai @Int.natCast_zero @Int.lt_irrefl)))) ?_;refine jF ?_;refine aC ?_;simp only [az,aw,if_true];refine hK _ _ ?_;clear hK aW K K2;refine jB @h5 ?_;refine jI ?_;refine jW ⟨?_,rfl⟩;rw [← hinv];simp [Nat.mod_eq_of_lt ho]
  ·have yo : (0 : Int) < m:=(by omega);refine jB (Ai @h5 (Ai @h0 (Ai @h1 @yo))) ?_;refine jE ?_;refine ag ?_;refine aW _ _ ?_;clear aW K2;refine al ?_;refine wK fun K4 ei=>?_;have SH : ∀ (E2 : Env) (o2 : Nat),E2 5 = .v (.int .u64 o2)→E2 0 = .v (.int .u64 b)→E2 1 = .v (.int .u64 m)→o2 < PP→o2 * (b * b % PP) ^ (m / 2) % PP = a ^ n % PP→K4 E2 s1:=by
    intro E2 o2 e5 e0 e1 iR z7;refine ei _ _ ?_;clear ei K4;refine jS @e0 fun K hK=>?_;refine ad (um b b hb hb s1) ?_;rintro r s' ⟨rfl,rfl⟩;refine jR hK ?_;clear hK K;refine jD (Ai @e1 (F4 m hm)) ?_;have Lt : b * b % PP < PP:=dh _;refine ⟨⟨o2,b * b % PP,m / 2,e5,rfl,rfl,iR,by omega,by omega,z7,rfl⟩,?_⟩;simp only [h1,aF,↓reduceIte];omega
   by_cases DZ : m % 2 = 1
   ·refine jB (Ai @h5 (Ai @h0 (Ai @h1 (Ai @D4 (Ai @DZ @Int.natCast_one))))) ?_;refine jE ?_;refine jU (Ai @h5 @h0) fun K hK=>?_;refine ad (um o b (by omega) hb s1) ?_;rintro r s' ⟨rfl,rfl⟩;refine jR hK ?_;clear hK K;refine SH _ (o * b % PP) rfl h0 h1 (dh _) ?_;rw [← hinv];have e : b ^ m = b * (b * b) ^ (m / 2):=by
     have : m = 2 * (m / 2) + 1:=(by omega);conv=>lhs; rw [this,Nat.pow_succ,Nat.pow_mul,Nat.pow_two,Nat.mul_comm]
    rw [e,← Nat.mul_assoc,Nat.mul_mod,Nat.mod_mod,← Nat.pow_mod,← Nat.mul_mod]
   ·have z8 : m % 2 = 0:=(by omega);refine jB (Ai @h5 (Ai @h0 (Ai @h1 (Ai @D4 (Ai @z8 (Ai @Int.natCast_zero @uk)))))) ?_;refine wC fun X Y hX hY=>?_;refine jP (Ai @DB @uk) ?_;refine hY ?_;clear hX hY X Y;refine ag ?_;refine SH _ o h5 h0 h1 ho ?_;rw [← hinv];have e : b ^ m = (b * b) ^ (m / 2):=by
     have : m = 2 * (m / 2):=(by omega);conv=>lhs; rw [this,Nat.pow_mul,Nat.pow_two]
    rw [e,Nat.mul_mod,← Nat.pow_mod,← Nat.mul_mod]
def uo : List UInt8:=[107,101,121]
def de (x : List UInt8) : Nat:=1 + eo (Kdf.label x uo [] 8) % 2305843009213693949
theorem F6 : Kdf.fits uo [] 8 = true:=by decide
theorem rA (x : List UInt8) : (Kdf.label x uo [] 8).length = 8:=by
 rw [Kdf.label,F6,if_pos rfl];exact Kdf.gZ _ _ _
theorem u6 (x : List UInt8) : de x < 2305843009213693950:=by unfold de; omega
theorem mF (n : Nat) : eu .u64 1 (mV (n : Int) 2305843009213693949) = ((1 + n % 2305843009213693949 : Nat) : Int):=by
 have h : mV (n : Int) 2305843009213693949 = ((n % 2305843009213693949 : Nat) : Int):=nO n 2305843009213693949;rw [h];exact oB 1 _ (by omega)
theorem xex (l : List UInt8) (h : l.length = 8) : (bm 8 (l,0)).1 = eo l:=by
 have e : List.take 8 l = l:=List.take_of_length_le (by omega);simp [bm,cL,h,e]
theorem kF (n : Nat) (hn : n < 2 ^ 64) (s : AS) : ah prog Γ 187 [.v (.int .u64 n)] s (fun r s'=>r = aj (be 8 n) .any∧s' = s):=by
 refine ab func187 rfl ntmps187 results187 (by simp) ?_;refine jA ?_;refine jQ fun K hK=>?_;refine ad (nr s) ?_;rintro r s1 ⟨p,rfl,hp⟩;refine jR hK ?_;clear hK K;refine jQ fun K hK=>?_;refine ad (eX s s1 p ([],false) n hn (by simp) hp) ?_;rintro r s2 ⟨rfl,pM⟩;refine jR hK ?_;clear hK K;have Fy : dN 8 n ([],false) = (be 8 n,false):=(by simp [dN]);rw [Fy] at pM;refine jK (fO s s2 p _ (by simp) pM) ?_;rintro s3 rfl;refine jA ?_;refine jI ?_;exact ⟨_,s,AV.aA.refl _,pM.le,rfl,rfl⟩
theorem n8 (ev : Γ 0 = ew Sha.H0) (hG : Γ 1 = Sha.K.map wV) (x : List UInt8) (hx : x.length≤2 ^ 36) (s : AS) : ah prog Γ 41 [aj x .any] s (fun r s'=>r = .v (.int .u64 (de x))∧s' = s):=by
 refine ab func41 rfl ntmps41 results41 (by simp) ?_;have hlen:=rA x;have zY:=km (Γ:=Γ) ev hG x uo [] 8 hx (by decide) (by decide) (by decide) s;have np : de x = 1 + eo (Kdf.label x uo [] 8) % 2305843009213693949:=rfl;generalize de x = k at *
 generalize Kdf.label x uo [] 8 = l at *
 refine jA ?_;refine jK (ah.iU (eL.aA.cons (AV.aA.refl _) (eL.aA.cons (AV.aA.refl _) (eL.aA.cons (AV.aJ (sz:=1)) (eL.aA.refl _)))) zY) ?_;rintro s1 rfl;refine jQ fun K hK=>?_;refine ad (oe l s1 (by omega)) ?_;rintro r s2 ⟨p,rfl,hp⟩;refine jM ?_;refine ad (tQ s1 s2 p _ hp) ?_;rintro r s3 ⟨rfl,FR⟩;rw [xex l hlen];refine jV @mF hK ?_;clear hK K;refine jI ?_;rw [np,mF];exact ⟨_,s1,AV.aA.refl _,FR.le,rfl,rfl⟩
theorem y5 (x : List UInt8) (hx : x.length≤2 ^ 36) (s : AS) : ah prog Γ 18 [.v (.string ⟨x.toArray⟩)] s (fun r s'=>r = .v (.int .u64 (de x))∧s' = s):=by
 refine ab func18 rfl ntmps18 results18 (by simp) ?_;have hlen:=rA x;have zY:=zZ (Γ:=Γ) x uo [] 8 hx F6 s;have np : de x = 1 + eo (Kdf.label x uo [] 8) % 2305843009213693949:=rfl;generalize de x = k at *
 generalize Kdf.label x uo [] 8 = l at *
 refine jA ?_;refine jQ fun K hK=>?_;refine ad zY ?_;rintro r s1 ⟨rfl,rfl⟩;refine jM ?_;refine ad (p9 l (by omega) s1) ?_;rintro r s2 ⟨rfl,rfl⟩;refine jV @mF hK ?_;clear hK K;refine jI ?_;rw [np,mF];exact jW ⟨rfl,rfl⟩
theorem fe (k : Nat) (hk : k < 2 ^ 64) (s : AS) : ah prog Γ 43 [.v (.int .u64 k)] s (fun r s'=>r = .v (.int .u64 (3 ^ k % PP : Nat))∧s' = s):=by
 refine ab func43 rfl ntmps43 results43 (by simp) ?_;have h:=Cw (Γ:=Γ) 3 k (by decide) hk s;generalize 3 ^ k % PP = A at *
 refine jA ?_;refine jK h ?_;rintro s1 rfl;exact jJ
theorem tK (k : Nat) (hk : k < 2 ^ 64) (s : AS) : ah prog Γ 19 [.v (.int .u64 k)] s (fun r s'=>r = .v (.int .u64 (3 ^ k % PP : Nat))∧s' = s):=by
 refine ab func19 rfl ntmps19 results19 (by simp) ?_;have h:=D5 (Γ:=Γ) 3 k (by decide) hk s;generalize 3 ^ k % PP = A at *
 refine jA ?_;refine jK h ?_;rintro s1 rfl;exact jJ
theorem oP (k p : Nat) (hk : k < 2 ^ 64) (hp : p < 2 ^ 64) (s : AS) : ah prog Γ 154 [.v (.int .u64 k),.v (.int .u64 p)] s (fun r s'=>r = aj (be 8 (p ^ k % PP)) .any∧s' = s):=by
 refine ab func154 rfl ntmps154 results154 (by simp) ?_;have h:=Cw (Γ:=Γ) p k hp hk s;have hl : p ^ k % PP < 2 ^ 64:=(by have:=dh (p ^ k); have:=Jv; omega);generalize p ^ k % PP = A at *
 refine jA ?_;refine jQ fun K hK=>?_;refine ad h ?_;rintro r s1 ⟨rfl,rfl⟩;refine jM ?_;refine ad (kF A hl s1) ?_;rintro r s2 ⟨rfl,rfl⟩;refine jR hK ?_;clear hK K;exact jJ
end Go.Proofs.YtbiefppedlodiaaGreatDoor
namespace Go.AM
namespace Hpke
def uo : List UInt8:=[107,101,121]
def zG : List UInt8:=[110,111,110,99,101]
def pm : Nat→Nat→Nat→Nat
  | 0,_,_=>1
  | f + 1,a,n=>if n % 2 = 1 then a * pm f (a * a % PP) (n / 2) % PP else pm f (a * a % PP) (n / 2)
theorem Fu : ∀ (f a n : Nat),n < 2 ^ f→pm f a n % PP = a ^ n % PP
  | 0,a,n,h=>by
    obtain rfl : n = 0:=(by simpa using h);rfl
  | f + 1,a,n,h=>by
    have ih:=Fu f (a * a % PP) (n / 2) (by rw [Nat.pow_succ] at h; omega);have e : a ^ n = a ^ (n % 2) * (a * a) ^ (n / 2):=by
      conv=>lhs; rw [← Nat.div_add_mod n 2]
      rw [Nat.pow_add,Nat.pow_mul,Nat.mul_comm,Nat.pow_two]
    rw [← Nat.pow_mod] at ih;rw [pm];split
    · rename_i h1;rw [e,h1,Nat.pow_one,Nat.mod_mod,Nat.mul_mod,ih,← Nat.mul_mod]
    · rename_i h1;have h0 : n % 2 = 0:=(by omega);rw [e,h0,Nat.pow_zero,Nat.one_mul,ih]
def sec (shared ju to : Nat) : List UInt8:=Mac.tag [] (be 8 shared ++ (be 8 ju ++ be 8 to))
def hk (s info : List UInt8) : List UInt8:=Kdf.label s uo info 48
def hn (s info : List UInt8) : List UInt8:=Kdf.label s zG info 16
def la : List UInt8:=[117,6,33,112,191,248,206,197]
def ld : List UInt8:=[58,81,223,243,45,240,153,21]
def ki : List UInt8:=[6,141,179,206,59,220,75,205,198,77,58,67,99,194,233,122,153,41,163,200,98,168,177,210,181,231,29,134,148,66,107,113,124,242,131,217,24,36,134,132,77,156,59,74,50,173,130,234]
def m0 : List UInt8:=[144,78,103,61]
def t0 : List UInt8:=[114,25,121,18,165,57,11,147,19,26,64,233,1,176,44,69]
end Hpke
end Go.AM
namespace Go.Proofs.YtbiefppedlodiaaGreatDoor
open Go Go.AM Go.Proofs Tryz
variable {Γ : Nat→List AV}
theorem Cx (info : List UInt8) (h : info.length≤60000) : Kdf.fits Hpke.uo info 48 = true:=by
 simp [Kdf.fits,Hpke.uo]; omega
theorem wG (info : List UInt8) (h : info.length≤60000) : Kdf.fits Hpke.zG info 16 = true:=by
 simp [Kdf.fits,Hpke.zG]; omega
theorem Ov (s info : List UInt8) (h : info.length≤60000) : (Hpke.hk s info).length = 48:=by
 rw [Hpke.hk,Kdf.label,Cx info h,if_pos rfl];exact Kdf.gZ _ _ _
theorem Ow (s info : List UInt8) (h : info.length≤60000) : (Hpke.hn s info).length = 16:=by
 rw [Hpke.hn,Kdf.label,wG info h,if_pos rfl];exact Kdf.gZ _ _ _
theorem Ra (a b c : Nat) : (Hpke.sec a b c).length = 32:=Mac.mB _ _
theorem Ox (a b c : Nat) : Mac.tag [] ([be 8 a,be 8 b,be 8 c].flatten) = Hpke.sec a b c:=by
 rw [Hpke.sec]; simp
theorem wI (ev : Γ 0 = ew Sha.H0) (hG : Γ 1 = Sha.K.map wV) (a b c : Nat) (info : List UInt8) (hb : b < 2 ^ 64) (hc : c < 2 ^ 64) (hi : info.length≤60000) (s : AS) :
  ah prog Γ 153 [aj (be 8 a) .any,.v (.int .u64 b),.v (.int .u64 c),aj info .any] s
   (fun r s'=>r = .eJ [aj (Hpke.hk (Hpke.sec a b c) info) .any,aj (Hpke.hn (Hpke.sec a b c) info) .any,.v (.bool true)]∧s' = s):=by
 refine ab func153 rfl ntmps153 results153 (by simp) ?_;have xbg : ∀ x : AV,List.replicate 3 x = [x,x,x]:=fun _=>rfl;have P9:=fun s=>kU (Γ:=Γ) [be 8 a,be 8 b,be 8 c] .new (by simp) (by simp) s;have hex:=fun s=>Bh (Γ:=Γ) ev hG [] ([be 8 a,be 8 b,be 8 c].flatten) (by simp) (by simp) s;rw [Ox] at hex;have oW : ([be 8 a,be 8 b,be 8 c].flatten).length = 24:=(by simp);have uu:=Ra a b c;have h1:=fun s=>km (Γ:=Γ) ev hG (Hpke.sec a b c) Hpke.uo info 48 (by omega) (by decide) (by omega) (by decide) s;have h2:=fun s=>km (Γ:=Γ) ev hG (Hpke.sec a b c) Hpke.zG info 16 (by omega) (by decide) (by omega) (by decide) s;rw [Cx info hi] at h1;rw [wG info hi] at h2;change ∀ s,ah _ _ _ _ s (fun r s'=>r = .eJ [aj (Hpke.hk (Hpke.sec a b c) info) .any,_]∧s' = s) at h1;change ∀ s,ah _ _ _ _ s (fun r s'=>r = .eJ [aj (Hpke.hn (Hpke.sec a b c) info) .any,_]∧s' = s) at h2;generalize [be 8 a,be 8 b,be 8 c].flatten = F at *
 generalize Hpke.hk (Hpke.sec a b c) info = k at *
 generalize Hpke.hn (Hpke.sec a b c) info = n at *
 generalize Hpke.sec a b c = S at *
 refine jA ?_;refine jQ fun K hK=>?_;refine ad (kF b hb _) ?_;rintro r s1 ⟨rfl,rfl⟩;refine jM ?_;refine ad (kF c hc _) ?_;rintro r s2 ⟨rfl,rfl⟩;refine jN @xbg ?_;refine ad (P9 _) ?_;intro r s3 bu;obtain ⟨t,e,rfl⟩:=ct bu (by rw [← List.length_pos_iff,oW]; decide);have gX:=bu.1;clear bu;refine jM ?_;refine ad (ah.iU (eL.aA.cons (AV.aJ (sz:=1)) (eL.aA.cons (AV.bJ) eL.aA.nil)) (hex _)) ?_;intro r s4 bu;obtain ⟨t4,e4,rfl⟩:=ct bu (by rw [← List.length_pos_iff,uu]; decide);have iJ:=gX.trans bu.1;clear bu;refine jR hK ?_;clear hK K;refine jK (ah.iU (eL.aA.cons (AV.bJ) (eL.aA.refl _)) (h1 _)) ?_;rintro s5 rfl;refine jK (ah.iU (eL.aA.cons (AV.bJ) (eL.aA.refl _)) (h2 _)) ?_;rintro s6 rfl;refine jA ?_;refine jI ?_;exact ⟨_,_,AV.aA.refl _,iJ,rfl,rfl⟩
def wo (n : Nat) : Prop:=2≤n∧n≤2305843009213693949
instance (n : Nat) : Decidable (wo n):=by unfold wo; infer_instance
theorem F7 {n : Nat} (h : wo n) : (decide (2≤(n : Int)) && decide ((n : Int)≤2305843009213693949)) = true:=by
 obtain ⟨h1,h2⟩:=h;simp only [Bool.and_eq_true,decide_eq_true_eq]; omega
theorem Jw (a : Nat) : a % PP < 2 ^ 64:=by have:=dh a; have:=Jv; omega
def iF (draw : List UInt8) : Nat:=3 ^ de draw % PP
def mR (iX : Nat) (draw : List UInt8) : List UInt8:=Hpke.sec (iX ^ de draw % PP) (iF draw) iX
def iH (iX : Nat) (info beside text draw : List UInt8) : List UInt8:=Aes.dY (Hpke.hk (mR iX draw) info) (Hpke.hn (mR iX draw) info) beside text
def qi (key ju : Nat) : List UInt8:=Hpke.sec (ju ^ key % PP) ju (3 ^ key % PP)
def oC (key ju : Nat) (text info beside : List UInt8) : List UInt8:=iM (Hpke.hk (qi key ju) info) (Hpke.hn (qi key ju) info) beside text
def oD (key ju : Nat) (text info beside : List UInt8) : Nat:=iN (Hpke.hk (qi key ju) info) (Hpke.hn (qi key ju) info) beside text
theorem Oy (ev : Γ 0 = ew Sha.H0) (hG : Γ 1 = Sha.K.map wV) (iX : Nat) (hp : wo iX) (info beside text draw : List UInt8) (hi : info.length≤60000) (hb : beside.length≤2 ^ 30) (ht : text.length≤2 ^ 30) (hd : draw.length≤2 ^ 36) (s : AS) :
  ah prog Γ 107 [.v (.int .u64 iX),aj info .any,aj beside .any,aj text .any,aj draw .any] s
   (fun r s'=>r = .eJ [.agg [.v (.int .u64 (iF draw)),aj (iH iX info beside text draw) .any],.v (.int .i64 ((0 : Nat) : Int))]∧s' = s):=by
 refine ab func107 rfl ntmps107 results107 (by simp) ?_;have Oz : iX < 2 ^ 64:=(by have:=hp.2; omega);have hke:=u6 draw;have c1:=fun s=>n8 (Γ:=Γ) ev hG draw hd s;have c2:=fun s=>fe (Γ:=Γ) (de draw) (by omega) s;have c3:=fun s=>oP (Γ:=Γ) (de draw) iX (by omega) Oz s;have c4:=fun s=>wI (Γ:=Γ) ev hG (iX ^ de draw % PP) (iF draw) iX info (Jw _) Oz hi s;have u9:=Ov (mR iX draw) info hi;have Gw:=Ow (mR iX draw) info hi;have c5:=fun s=>Ip (Γ:=Γ) ev hG (Hpke.hk (mR iX draw) info) (Hpke.hn (mR iX draw) info) beside text hb ht s;simp only [show Af (Hpke.hk (mR iX draw) info) (Hpke.hn (mR iX draw) info) beside text = iH iX info beside text draw from by unfold Af; rw [if_pos ⟨u9,Gw⟩]; rfl,show Ag (Hpke.hk (mR iX draw) info) (Hpke.hn (mR iX draw) info) = 0 from by unfold Ag; rw [if_pos ⟨u9,Gw⟩]] at c5;simp only [show Hpke.sec (iX ^ de draw % PP) (iF draw) iX = mR iX draw from rfl] at c4;simp only [show 3 ^ de draw % PP = iF draw from rfl] at c2;generalize iH iX info beside text draw = z at *
 generalize Hpke.hk (mR iX draw) info = k at *
 generalize Hpke.hn (mR iX draw) info = n at *
 generalize iX ^ de draw % PP = sh at *
 generalize iF draw = f at *
 generalize de draw = e at *
 refine jQ fun K hK=>?_;intro o ho;refine hK _ _ ?_;clear hK K;refine wK fun K hK=>?_;refine jQ fun K hK=>?_;refine ad (ca iX _) ?_;rintro r s1 ⟨rfl,rfl⟩;refine jV (F7 hp) hK ?_;clear hK K;refine jF ?_;refine ag ?_;refine hK _ _ ?_;clear hK K;refine jK (c1 _) ?_;rintro s2 rfl;refine jK (c2 _) ?_;rintro s3 rfl;refine jQ fun K hK=>?_;refine ad (c3 _) ?_;rintro r s4 ⟨rfl,rfl⟩;refine jM ?_;refine ad (c4 _) ?_;rintro r s5 ⟨rfl,rfl⟩;refine jR hK ?_;clear hK K;refine wK fun K hK=>?_;refine jA ?_;refine jF ?_;refine ag ?_;refine hK _ _ ?_;clear hK K;refine jK (c5 _) ?_;rintro s6 rfl;refine wK fun K hK=>?_;refine jB (show (((0 : Nat) : Int) != 0) = false from rfl) ?_;refine jF ?_;refine ag ?_;refine hK _ _ ?_;clear hK K;refine jA ?_;refine a7 ?_;refine lA (o:=o) (off:=0) rfl (AS.aa _ _ _) (by rw [T.PF]; decide) (by simp only [↓DN,Qa,Qb,Qc,Qd,Qe,Qf,Qg,Qh,reduceCtorEq,↓reduceIte,Na,Nb,Nc,Nk,Nf,Ng,Nh,Za,Zb,Zc,TT]; rfl) ?_;exact ⟨_,s,AV.aA.refl _,AS.aB (AS.le.refl s) ho _,rfl,rfl⟩
def Ak (key ju : Nat) : Prop:=wo ju∧1≤key∧key≤2305843009213693949
instance (key ju : Nat) : Decidable (Ak key ju):=by unfold Ak; infer_instance
theorem OA (ev : Γ 0 = ew Sha.H0) (hG : Γ 1 = Sha.K.map wV) (key ju : Nat) (hk : Ak key ju) (text info beside : List UInt8) (hi : info.length≤60000) (hb : beside.length≤2 ^ 30) (ht : text.length≤2 ^ 30) (s : AS) :
  ah prog Γ 132 [.v (.int .u64 key),.agg [.v (.int .u64 ju),aj text .any],aj info .any,aj beside .any] s
   (fun r s'=>r = .eJ [aj (oC key ju text info beside) .any,.v (.int .i64 ((oD key ju text info beside : Nat) : Int))]∧s' = s):=by
 refine ab func132 rfl ntmps132 results132 (by simp) ?_;obtain ⟨hp,h1,h2⟩:=hk;have Oz : ju < 2 ^ 64:=(by have:=hp.2; omega);have c2:=fun s=>fe (Γ:=Γ) key (by omega) s;have c3:=fun s=>oP (Γ:=Γ) key ju (by omega) Oz s;have c4:=fun s=>wI (Γ:=Γ) ev hG (ju ^ key % PP) ju (3 ^ key % PP) info Oz (Jw _) hi s;have u9:=Ov (qi key ju) info hi;have Gw:=Ow (qi key ju) info hi;have c5:=fun s=>xo (Γ:=Γ) ev hG (Hpke.hk (qi key ju) info) (Hpke.hn (qi key ju) info) beside text hb ht s;simp only [show U7 (Hpke.hk (qi key ju) info) (Hpke.hn (qi key ju) info) beside text = oC key ju text info beside from by unfold U7; rw [if_pos ⟨u9,Gw⟩]; rfl,show U8 (Hpke.hk (qi key ju) info) (Hpke.hn (qi key ju) info) beside text = oD key ju text info beside from by unfold U8; rw [if_pos ⟨u9,Gw⟩]; rfl] at c5;simp only [show Hpke.sec (ju ^ key % PP) ju (3 ^ key % PP) = qi key ju from rfl] at c4;generalize oC key ju text info beside = z at *
 generalize oD key ju text info beside = y at *
 generalize Hpke.hk (qi key ju) info = k at *
 generalize Hpke.hn (qi key ju) info = n at *
 generalize ju ^ key % PP = sh at *
 generalize 3 ^ key % PP = to at *
 refine aU 5 (by simp [bU]) ?_;intro K hK;refine jM ?_;intro o ho;refine hK _ _ o _ rfl ho ?_;clear hK K ho;refine wK fun K hK=>?_;refine jQ fun K hK=>?_;refine ad (ca ju _) ?_;rintro r s1 ⟨rfl,rfl⟩;refine jV (Ai (F7 hp) (Ai (decide_eq_false (show ¬ (key : Int) < 1 by omega)) (decide_eq_false (show ¬ (2305843009213693949 : Int) < (key : Int) by omega)))) hK ?_;clear hK K;refine jF ?_;refine ag ?_;refine hK _ _ ?_;clear hK K;refine bB T.mixed [3,7,9] (by kernel_rfl) ?_;intro K hK;refine jM ?_;refine ad (c3 _) ?_;rintro r s2 ⟨rfl,rfl⟩;refine jM ?_;refine ad (c2 _) ?_;rintro r s3 ⟨rfl,rfl⟩;refine jM ?_;refine ad (c4 _) ?_;rintro r s4 ⟨rfl,rfl⟩;refine jR hK ?_;clear hK K;refine wK fun K hK=>?_;refine jA ?_;refine jF ?_;refine ag ?_;refine hK _ _ ?_;clear hK K;refine jK (c5 _) ?_;rintro s5 rfl;exact jJ
theorem MM (d : List UInt8) : iF d = 3 ^ de d % PP:=rfl
theorem OB (a b : Nat) : (3 ^ a % PP) ^ b % PP = (3 ^ b % PP) ^ a % PP:=by
  rw [← Nat.pow_mod,← Nat.pow_mod,← Nat.pow_mul,← Nat.pow_mul,Nat.mul_comm]
theorem F8 (k : Nat) (draw : List UInt8) : qi k (iF draw) = mR (3 ^ k % PP) draw:=by
  unfold qi mR iF;rw [OB]
theorem TX (k : Nat) (info beside text draw : List UInt8) : oC k (iF draw) (iH (3 ^ k % PP) info beside text draw) info beside = text:=by
  unfold oC iH;rw [F8,Ah]
theorem TY (k : Nat) (info beside text draw : List UInt8) : oD k (iF draw) (iH (3 ^ k % PP) info beside text draw) info beside = 0:=by
  unfold oD iH;rw [F8,Aj]
def gj : List UInt8:=[112,97,116,104]
def Al : List UInt8:=[110,111,100,101]
def F9 : List UInt8:=[115,101,97,108]
def cz (d : List UInt8) : Nat→List UInt8
 | 0=>d
 | k + 1=>Kdf.derive (cz d k) gj
def pW (x : List UInt8) : Nat:=de (Kdf.derive x Al)
theorem kP (x l : List UInt8) : (Kdf.derive x l).length = 32:=by
 rw [Kdf.derive,Kdf.label,FY,if_pos rfl];exact Kdf.gZ _ _ _
theorem Gb (d : List UInt8) (h : d.length≤2 ^ 36) : ∀ k,(cz d k).length≤2 ^ 36
 | 0=>h
 | k + 1=>by rw [cz,kP]; decide
theorem qJ (d : List UInt8) (k : Nat) : (cz d (k + 1)).length = 32:=kP _ _
theorem Jx (x : List UInt8) : pW x < 2 ^ 64:=by have:=u6 (Kdf.derive x Al); unfold pW; omega
theorem mS (ev : Γ 0 = ew Sha.H0) (ig : Γ 1 = Sha.K.map wV) (x : List UInt8) (hx : x.length≤2 ^ 36) (s : AS) : ah prog Γ 49 [aj x .any] s (fun r s'=>r = .v (.int .u64 (pW x : Nat))∧s' = s):=by
 refine ab func49 rfl ntmps49 results49 (by simp) ?_;have h1:=fun s=>kO (Γ:=Γ) ev ig x Al hx (by decide) s;have h2:=fun s=>n8 (Γ:=Γ) ev ig (Kdf.derive x Al) (by rw [kP]; decide) s;obtain ⟨k,hk⟩ : ∃ k,k = pW x:=⟨_,rfl⟩;rw [← hk];rw [show de (Kdf.derive x Al) = k from hk.symm] at h2;generalize Kdf.derive x Al = y at *
 unfold Al at h1;refine jA ?_;refine jQ fun K hK=>?_;refine ad (h1 _) ?_;rintro r s1 ⟨rfl,rfl⟩;refine jM ?_;refine ad (h2 _) ?_;rintro r s2 ⟨rfl,rfl⟩;refine jR hK ?_;clear hK K;exact jJ
theorem p6 (ev : Γ 0 = ew Sha.H0) (ig : Γ 1 = Sha.K.map wV) (d : List UInt8) (hd : d.length≤2 ^ 36) (n : Nat) (hn : n≤2 ^ 40) (s : AS) : ah prog Γ 25 [aj d .any,.v (.int .i64 n)] s (fun r s'=>r = aj (cz d (n + 1)) .any∧s' = s):=by
 refine ab func25 rfl ntmps25 results25 (by simp) ?_;unfold aj;have e1 : eu .i64 (n : Int) 1 = ((n + 1 : Nat) : Int):=bt n (by omega);refine jA ?_;refine wK fun K hK=>?_;refine jB @e1 ?_;refine al ?_;refine aE (fun E s2=>∃ (i : Nat) (x : List UInt8),x = cz d i∧i≤n + 1∧E 7 = .v (.int .i64 i)∧E 6 = .v (.int .i64 (n + 1 : Nat))∧E 0 = .sl 1 x.length (x.map ai) .any∧s2 = s)
  (fun E _=>match E 7 with | .v (.int _ i)=>n + 1 - i.toNat | _=>0) ?_ ?_
 ·exact ⟨0,d,rfl,Nat.zero_le _,rfl,rfl,rfl,rfl⟩
 ·rintro E1 s2 ⟨i,x,hx,hi,g7,g6,g0,rfl⟩ -
  have hc:=Gb d hd i;rw [← hx] at hc;by_cases bc : i < n + 1
  ·have h1:=fun s=>kO (Γ:=Γ) ev ig x gj hc (by decide) s;have h2 : Kdf.derive x gj = cz d (i + 1):=(by rw [hx]; rfl);generalize Kdf.derive x gj = y at *
   unfold gj aj at h1;refine jB (Ai @g7 (Ai @g6 (Ai @ax (decide_eq_true bc)))) ?_;refine wK fun K2 aW=>?_;refine jE ?_;refine ag ?_;refine aW _ _ ?_;clear aW K2;refine wK fun K3 bC=>?_;refine al ?_;refine jU @g0 fun K hK=>?_;refine ad (h1 _) ?_;rintro r s3 ⟨rfl,rfl⟩;refine jR hK ?_;clear hK K;refine bC _ _ ?_;clear bC K3;refine jD (Ai @g7 (bt i (by omega))) ?_;refine ⟨⟨i + 1,y,h2,bc,rfl,g6,rfl,rfl⟩,?_⟩;simp only [g7,aF,↓reduceIte];omega
  ·obtain rfl : i = n + 1:=(by omega);rw [← hx] at hK;have h2:=fun s=>ga (Γ:=Γ) x s (by omega);unfold aj at h2;have bS : ¬ (n + 1) < n + 1:=(by omega);refine jB (Ai @g7 (Ai @g6 (Ai @ax (decide_eq_false bS)))) ?_;refine wK fun K2 aW=>?_;refine jF ?_;refine aC ?_;simp only [az,aw,if_true];refine hK _ _ ?_;clear hK aW K2 K;refine jS @g0 fun K hK=>?_;refine ad (h2 _) ?_;rintro r s3 ⟨rfl,rfl⟩;refine jR hK ?_;clear hK K;exact jJ
end Go.Proofs.YtbiefppedlodiaaGreatDoor
namespace Go.AM
structure bY where
  node : Int
  key : Nat
  deriving DecidableEq
def bY.cells (h : bY) : List AV:=[.v (.int .i64 h.node),.v (.int .u64 h.key)]
def ke (l : List bY) : AV:=.sl 2 l.length (aK bY.cells l) .any
theorem kQ {α : Type} (c : α→List AV) (a b : List α) : aK c (a ++ b) = aK c a ++ aK c b:=by simp [aK]
end Go.AM
namespace Go.Proofs.YtbiefppedlodiaaGreatDoor
open Go Go.AM Go.Proofs Tryz
variable {Γ : Nat→List AV}
theorem rB (l : List bY) (hl : l.length≤2 ^ 61) (sp : Sp) (k : FuncId) (hk : af prog k = true) (cd : List AV) (P : bY→Bool)
  (hP : ∀ x ∈ l,∀ s,ah prog Γ k (.agg x.cells :: cd) s (fun r s'=>r = .v (.bool (P x))∧s' = s)) (s : AS) :
  ah prog Γ 130 [.sl 2 l.length (aK bY.cells l) sp,.qK k cd] s (fun r s'=>r = .v (.int .i64 (cy (fun i=>P (l.getD i ⟨0,0⟩)) l.length 0))∧s' = s):=by
 refine ab func130 rfl ntmps130 results130 (by simp) ?_;obtain ⟨Q,hQ⟩ : ∃ Q : Nat→Bool,Q = fun i=>P (l.getD i ⟨0,0⟩):=⟨_,rfl⟩;rw [← hQ];have oc:=fun i (h : i < l.length)=>fN (c:=bY.cells) (k:=2) (fun _=>rfl) h;generalize aK bY.cells l = Y at *
 refine jA ?_;refine wK fun K hK=>?_;refine jA ?_;refine al ?_;refine aE (fun E s2=>∃ i : Nat,i≤l.length∧cy Q (l.length - i) i = cy Q l.length 0∧E 8 = .v (.int .i64 i)∧E 7 = .v (.int .i64 l.length)∧E 0 = .sl 2 l.length Y sp∧E 1 = .qK k cd∧s2 = s)
  (fun E _=>match E 8 with | .v (.int _ i)=>l.length - i.toNat | _=>0) ?_ ?_
 ·exact ⟨0,Nat.zero_le _,rfl,rfl,rfl,rfl,rfl,rfl⟩
 ·rintro E1 s2 ⟨i,hi,hf,g8,g7,g0,g1,rfl⟩ -
  by_cases bc : i < l.length
  ·refine jB (Ai @g8 (Ai @g7 (Ai @ax (decide_eq_true bc)))) ?_;refine wK fun K2 aW=>?_;refine jE ?_;refine ag ?_;refine aW _ _ ?_;clear aW K2;refine wK fun K3 bC=>?_;refine al ?_;have I7 : Q i = P l[i]:=(by rw [hQ]; simp [List.getD,bc]);have hc:=hP l[i] (List.getElem_mem bc) s2;rw [← I7] at hc;obtain ⟨k',Lf⟩ : ∃ k',l.length - i = k' + 1:=⟨l.length - i - 1,by omega⟩;have D8 : l.length - (i + 1) = k':=(by omega);rw [Lf] at hf;have dI:=oc i bc;have dr : (0 : Int)≤(i : Int):=(by omega);generalize l[i] = q at *
   unfold bY.cells at dI hc;refine jB @g8 ?_;refine jS (Ai @g1 (Ai @g0 (Ai @ax (Ai @bc (Ai @dr @dI))))) fun K hK=>?_;refine ⟨hk,?_⟩;refine ad hc ?_;rintro r s3 ⟨rfl,rfl⟩;cases hq : Q i with
   | true =>
    refine jR hK ?_;clear hK K;refine jE ?_;refine jA ?_;refine jI ?_;rw [← hf,mz hq];exact jW ⟨rfl,rfl⟩
   | false =>
    refine jR hK ?_;clear hK K;refine jF ?_;refine ag ?_;simp only [aw,az,if_true,if_false];refine bC _ _ ?_;clear bC K3;refine jD (Ai @g8 (bt i (by omega))) ?_;refine ⟨⟨i + 1,by omega,by rw [D8,← hf,my hq],rfl,g7,g0,g1,rfl⟩,?_⟩;simp only [g8,aF,↓reduceIte];omega
  ·refine jB (Ai @g8 (Ai @g7 (Ai @ax (decide_eq_false bc)))) ?_;refine wK fun K2 aW=>?_;refine jF ?_;refine aC ?_;simp only [az,aw,if_true];refine hK _ _ ?_;clear hK aW K2 K;rw [show l.length - i = 0 by omega] at hf;refine jA ?_;refine jI ?_;rw [← hf];exact jW ⟨rfl,rfl⟩
theorem Bl (l : List bY) (hl : l.length≤2 ^ 61) (sp : Sp) (k : FuncId) (hk : af prog k = true) (cd : List AV) (P : bY→Bool)
  (hP : ∀ x ∈ l,∀ s,ah prog Γ k (.agg x.cells :: cd) s (fun r s'=>r = .v (.bool (P x))∧s' = s)) (vE : ∀ x ∈ l,P x = false) (s : AS) :
  ah prog Γ 81 [.sl 2 l.length (aK bY.cells l) sp,.qK k cd] s (fun r s'=>r = .sl 2 l.length (aK bY.cells l) sp∧s' = s):=by
 refine ab func81 rfl ntmps81 results81 (by simp) ?_;have yO:=rB (Γ:=Γ) l hl sp k hk cd P hP s;have hn : cy (fun i=>P (l.getD i ⟨0,0⟩)) l.length 0 = -1:=by
  rcases pU (fun i=>P (l.getD i ⟨0,0⟩)) l.length 0 with ⟨h,-⟩ | ⟨i,-,hi,hp,-,-⟩
  ·exact h
  ·have bc : i < l.length:=(by omega);simp only [List.getD,bc,List.getElem?_eq_getElem,Option.getD_some] at hp;rw [vE _ (List.getElem_mem bc)] at hp;cases hp
 rw [hn] at yO;generalize aK bY.cells l = Y at *
 refine jA ?_;refine jK yO ?_;rintro s1 rfl;refine wK fun K hK=>?_;refine jA ?_;refine jE ?_;refine jA ?_;exact jJ
theorem xp (l : List bY) (h0 : l.length≠0) (hl : l.length≤2 ^ 40) (s : AS) : ah prog Γ 82 [ke l] s (fun r s'=>∃ t,r = .sl 2 l.length (aK bY.cells l) (.own t 0)∧s.own t = none∧s' = s.bo t 0):=by
 refine ab func82 rfl ntmps82 results82 (by simp) ?_;have lY : (aK bY.cells l).all AV.one = true:=by
  rw [List.all_eq_true];intro c hc;simp only [aK,List.mem_flatten,List.mem_map] at hc;obtain ⟨_,⟨n,-,rfl⟩,hc⟩:=hc;simp only [bY.cells,List.mem_cons,List.not_mem_nil,or_false] at hc;rcases hc with rfl | rfl <;> rfl
 unfold ke;generalize aK bY.cells l = X at *
 refine jA ?_;refine wK fun K hK=>?_;refine jB @h0 ?_;refine jF ?_;refine ag ?_;refine hK _ _ ?_;clear hK K;refine jS (Ai @h0 @lY) fun K hK=>?_;refine ⟨by omega,by omega,fun t ht=>?_⟩;refine hK _ _ ?_;clear hK K;refine jI ?_;exact jW ⟨t,rfl,ht,rfl⟩
end Go.Proofs.YtbiefppedlodiaaGreatDoor
namespace Go.AM
open Go
theorem Rb : ∀ n < 63,2 * lo n + 2 ^ lv n = n + 1∧2 * hi n + 1 = n + 2 ^ lv n:=by decide +kernel
theorem Rc : ∀ n < 63,∀ l < 5,lv n = l + 1→2 ^ l≤n∧lv (n - 2 ^ l) = l∧lv (n + 2 ^ l) = l∧n + 2 ^ l < 63:=by decide +kernel
def lS (x n : Nat) : Prop:=n < x + 2 ^ lv n∧x < n + 2 ^ lv n
instance (x n : Nat) : Decidable (lS x n):=by unfold lS; infer_instance
theorem Gc {t : List ao} {skip : List Int} {n : Nat} {x : Int} (h : x ∈ rl skip (nd t n) n) : x = (n : Int)∧(nd t n).kind≠0:=by
  unfold rl at h;split at h
  · rename_i hk;refine ⟨by simpa using h,?_⟩;rcases hk with ⟨hk,-⟩ | hk <;> rw [hk] <;> decide
  · cases h
theorem Jy {t : List ao} (hr : bO t) {skip : List Int} {n : Nat} (hn : n < 63) (ht : n < t.length) {x : Int} (h : x ∈ oU skip (nd t n).kY) : ∃ m : Nat,x = (m : Int)∧m < t.length∧(nd t m).kind≠0∧lS m n:=by
  unfold oU at h;rw [List.mem_map] at h;obtain ⟨u,hu,rfl⟩:=h;rw [List.mem_filter] at hu;obtain ⟨h1,h2,h3⟩:=(hr.2.1 n ht).1.2.2 u hu.1;obtain ⟨h4,h5,h6⟩:=h3;unfold wY at h1 h2;rw [if_pos (by omega)] at h1 h2;simp only [Int.toNat_natCast] at h1 h2;have T7:=Rb n hn;have bS:=Mt (t:=t) (i:=u.toNat) (by omega);refine ⟨2 * u.toNat,by omega,bS,by rw [h6]; decide,?_⟩;unfold lS;omega
theorem Am {t : List ao} (hr : bO t) (skip : List Int) : ∀ l n,lv n = l→n < 63→n + 2 ^ l≤t.length→∀ x ∈ l8 t skip l n,∃ m : Nat,x = (m : Int)∧m < t.length∧(nd t m).kind≠0∧lS m n
  | 0,n=>fun hl hn ht x h=>by
    simp only [l8] at h;rcases List.mem_append.1 h with h | h
    · obtain ⟨rfl,hk⟩:=Gc h;exact ⟨n,rfl,by omega,hk,by unfold lS; rw [hl]; omega⟩
    · exact Jy hr hn (by omega) h
  | l + 1,n=>fun hl hn ht x h=>by
    have hp:=Nat.two_pow_pos l;have TI : 2 ^ (l + 1) = 2 ^ l + 2 ^ l:=(by rw [Nat.pow_succ]; omega);have hl5:=pP n;simp only [l8] at h;split at h
    · obtain ⟨k1,k2,k3,k4⟩:=Rc n hn l (by omega) hl;rcases List.mem_append.1 h with h | h
      · obtain ⟨m,h1,h2,h3,h4⟩:=Am hr skip l (n - 2 ^ l) k2 (by omega) (by omega) x h;unfold lS at h4;rw [k2] at h4;exact ⟨m,h1,h2,h3,by unfold lS; rw [hl]; omega⟩
      · obtain ⟨m,h1,h2,h3,h4⟩:=Am hr skip l (n + 2 ^ l) k3 k4 (by omega) x h;unfold lS at h4;rw [k3] at h4;exact ⟨m,h1,h2,h3,by unfold lS; rw [hl]; omega⟩
    · rcases List.mem_append.1 h with h | h
      · obtain ⟨rfl,hk⟩:=Gc h;exact ⟨n,rfl,by omega,hk,by unfold lS; rw [hl]; omega⟩
      · exact Jy hr hn (by omega) h
theorem La : ∀ m≤5,∀ n < 2 * 2 ^ m - 1,n + 2 ^ lv n≤2 * 2 ^ m - 1:=by decide +kernel
theorem I4 {t : List ao} (hr : bO t) (skip : List Int) {n : Nat} (ht : n < t.length) {x : Int} (h : x ∈ bQ t n skip) : ∃ m : Nat,x = (m : Int)∧m < t.length∧(nd t m).kind≠0∧lS m n:=by
  obtain ⟨dS,lT⟩ : Fit (bj t)∧t.length = 2 * bj t - 1:=by
    rcases dn (t:=t) with h | h
    · exact absurd h hr.1
    · exact h
  have oW:=dS.le;unfold bQ at h;rw [if_pos ⟨by omega,by omega,hr⟩,Int.toNat_natCast] at h;refine Am hr skip _ n rfl (by omega) ?_ x h;obtain ⟨m,hm,he⟩:=dS.pow;rw [lT,he];exact La m hm n (by rw [← he]; omega)
def OC : Bool:=(List.range 6).all fun m=>(List.range (2 ^ m)).all fun leaf=>(List.range (aH leaf (2 ^ m)).length).all fun i=>(List.range (2 * 2 ^ m - 1)).all fun u=>!decide (lS u (cC (nodeAt leaf (2 ^ m) i))) || decide (u ∉ aH leaf (2 ^ m))
theorem Gd : OC = true:=by decide +kernel
theorem MJ {leaf l : Nat} (hl : Fit l) (h : leaf < l) {i : Nat} (hi : i < (aH leaf l).length) {u : Nat} (hu : u < 2 * l - 1) (hs : lS u (cC (nodeAt leaf l i))) : u ∉ aH leaf l:=by
  obtain ⟨m,hm,rfl⟩:=hl.pow;have k:=Gd;unfold OC at k;have k1:=List.all_eq_true.1 k m (List.mem_range.2 (by omega));have k2:=List.all_eq_true.1 k1 leaf (List.mem_range.2 h);have k3:=List.all_eq_true.1 k2 i (List.mem_range.2 hi);have k4:=List.all_eq_true.1 k3 u (List.mem_range.2 hu);simpa [hs] using k4
def R5 (leaf l own : Nat) : Int:=cy (fun i=>decide (lo ((aH leaf l).getD i 0)≤own∧own≤hi ((aH leaf l).getD i 0))) (aH leaf l).length 0
end Go.AM
namespace Go.Proofs.YtbiefppedlodiaaGreatDoor
open Go Go.AM Go.Proofs Tryz
variable {Γ : Nat→List AV}
theorem Bm (h : bY) (n : Int) (s : AS) : ah prog Γ 131 [.agg h.cells,.dq [.v (.int .i64 n)]] s (fun r s'=>r = .v (.bool (h.node == n))∧s' = s):=by
 refine ab func131 rfl ntmps131 results131 (by simp) ?_;obtain ⟨hn,hk⟩:=h;simp only [bY.cells];refine aU 2 (by decide) ?_;intro K hK;refine jM ?_;intro o1 h1;refine hK _ _ o1 _ rfl h1 ?_;clear hK K h1;refine jA ?_;exact jJ
theorem Ge (h : bY) (l : List Int) (hl : l.length≤2 ^ 61) (s : AS) : ah prog Γ 83 [.agg h.cells,.dq [aR l .any]] s (fun r s'=>r = .v (.bool (decide (h.node ∈ l)))∧s' = s):=by
 refine ab func83 rfl ntmps83 results83 (by simp) ?_;obtain ⟨hn,hk⟩:=h;have hc:=fun s=>iK (Γ:=Γ) l hn hl s;simp only [bY.cells];refine aU 2 (by decide) ?_;intro K hK;refine jM ?_;intro o1 h1;refine hK _ _ o1 _ rfl h1 ?_;clear hK K h1;refine jK (hc _) ?_;rintro s1 rfl;exact jJ
theorem Gf (hG : Γ 3 = fM.map pg) (x own : Int) (s : AS) : ah prog Γ 78 [.v (.int .i64 x),.dq [.v (.int .i64 own)]] s (fun r s'=>r = .v (.bool (mT x own))∧s' = s):=by
 refine ab func78 rfl ntmps78 results78 (by simp) ?_;have hc:=fun s=>ru (Γ:=Γ) hG x own s;refine jA ?_;refine jK (hc _) ?_;rintro s1 rfl;exact jJ
theorem Gg (p : bE) (a i : Nat) (hi : a + i < p.steps.length) (hp : p.steps.length≤2 ^ 60) (s : AS) : ah prog Γ 80 [.v (.int .i64 i),.dq p.cells,.dq [.v (.int .i64 a)]] s (fun r s'=>r = .v (.int .u64 ((p.steps.getD (a + i) ⟨0,[]⟩).key : Nat))∧s' = s):=by
 refine ab func80 rfl ntmps80 results80 (by simp) ?_;obtain ⟨pk,pp,ps⟩:=p;simp only at hi hp ⊢;have dI:=fN (c:=aM.cells) (k:=2) (fun _=>rfl) hi;have Fo : ps.getD (a + i) ⟨0,[]⟩ = ps[a + i]:=(by simp [List.getD,hi]);rw [Fo];simp only [bE.cells];generalize hY : aK aM.cells ps = Y at *
 generalize ps[a + i] = q at *
 obtain ⟨qk,qs⟩:=q;unfold aM.cells at dI;have e1 : eu .i64 (a : Int) (i : Int) = ((a + i : Nat) : Int):=(by rw [gC (by omega)]; rfl);have dr : (0 : Int)≤((a + i : Nat) : Int):=(by omega);have bS : ((a + i : Nat) : Int) < (ps.length : Int):=(by omega);refine jA ?_;refine jB (Ai @e1 (Ai @dr (Ai @bS @dI))) ?_;exact jJ
def iG (d : List UInt8) (i n : Nat) : List UInt8:=Kdf.label d F9 [UInt8.ofNat i,UInt8.ofNat n] 32
theorem OD (d : List UInt8) (i n : Nat) : (iG d i n).length≤32:=by
 unfold iG Kdf.label;split
 ·rw [Kdf.gZ]; decide
 ·exact Nat.zero_le _
theorem D6 (ev : Γ 0 = ew Sha.H0) (ig : Γ 1 = Sha.K.map wV) (d : List UInt8) (hd : d.length≤2 ^ 36) (i n : Nat) (hi : i < 256) (hn : n < 256) (s : AS) : ah prog Γ 108 [aj d .any,.v (.int .i64 i),.v (.int .i64 n)] s (fun r s'=>r = aj (iG d i n) .any∧s' = s):=by
 refine ab func108 rfl ntmps108 results108 (by simp) ?_;have hc:=fun s=>km (Γ:=Γ) ev ig d F9 [UInt8.ofNat i,UInt8.ofNat n] 32 hd (by decide) (by simp) (by decide) s;have Ao : ∀ s,ah prog Γ 102 [aj d .any,.v (.string ⟨F9.toArray⟩),.sl 1 2 [.v (.int .u8 (cB .u8 (i : Int))),.v (.int .u8 (cB .u8 (n : Int)))] .new,.v (.int .i64 32)] s (fun r s'=>r = .eJ [aj (iG d i n) .any,.v (.bool (Kdf.fits F9 [UInt8.ofNat i,UInt8.ofNat n] 32))]∧s' = s):=by
  intro s;rw [← sW,← sW];exact ah.iU (eL.aA.cons (AV.aA.refl _) (eL.aA.cons (AV.aA.refl _) (eL.aA.cons AV.bJ (eL.aA.cons (AV.aA.refl _) eL.aA.nil)))) (hc s)
 clear hc;generalize iG d i n = y at *
 unfold aj F9 at Ao;unfold aj;refine jA ?_;refine wS fun K hK=>?_;simp only [↓DN,Qa,Qb,Qc,Qd,Qe,Qf,Qg,Qh,reduceCtorEq,↓reduceIte,Na,Nb,Nc,Nk,Nf,Ng,Nh,Za,Zb,Zc,TT,List.replicate_succ,List.replicate_zero];refine ad (Ao _) ?_;rintro r s1 ⟨rfl,rfl⟩;refine jR hK ?_;clear hK K;refine jA ?_;exact jJ
def nn (x : List UInt8) : Nat:=3 ^ pW x % PP
def ej (x : List UInt8) (kC : List Nat) : List bY:=(List.range kC.length).map fun i=>⟨(kC.getD i 0 : Nat),pW (cz x i)⟩
def rW (x : List UInt8) (n : Nat) (iX : Nat→Nat) : Bool:=(List.range n).all fun i=>decide (nn (cz x i) = iX i)
def qj (x : List UInt8) (kC : List Nat) (iX : Nat→Nat) : List bY × List UInt8 × Bool :=
 if rW x kC.length iX = true then (ej x kC,cz x kC.length,true) else ([],[],false)
theorem lK (x : List UInt8) (kC : List Nat) : (ej x kC).length = kC.length:=by simp [ej]
theorem Gi (x : List UInt8) (kC : List Nat) {i : Nat} (h : i < kC.length) : (ej x kC).take (i + 1) = (ej x kC).take i ++ [⟨(kC.getD i 0 : Nat),pW (cz x i)⟩]:=by
 rw [List.take_succ_eq_append_getElem (by rw [lK]; exact h)];simp [ej]
theorem wk {x : List UInt8} {n : Nat} {iX : Nat→Nat} (h : ∀ j,j < n→nn (cz x j) = iX j) : rW x n iX = true:=by
 unfold rW;rw [List.all_eq_true];intro i hi;rw [decide_eq_true (h i (List.mem_range.1 hi))]
theorem D7 {x : List UInt8} {n : Nat} {iX : Nat→Nat} {i : Nat} (hi : i < n) (h : nn (cz x i)≠iX i) : rW x n iX = false:=by
 unfold rW;rw [List.all_eq_false];exact ⟨i,List.mem_range.2 hi,by simpa using h⟩
theorem Bn (ev : Γ 0 = ew Sha.H0) (ig : Γ 1 = Sha.K.map wV) (x : List UInt8) (hx : x.length≤2 ^ 36) (kC : List Nat) (hu : kC.length≤2 ^ 30) (k : FuncId) (hk : af prog k = true) (cd : List AV) (iX : Nat→Nat)
  (hp : ∀ i,i < kC.length→∀ s,ah prog Γ k (.v (.int .i64 i) :: cd) s (fun r s'=>r = .v (.int .u64 (iX i : Nat))∧s' = s)) (s : AS) :
  ah prog Γ 74 [aj x .any,aR (bw kC) .any,.qK k cd] s (fun r s'=>r = .eJ [ke (qj x kC iX).1,aj (qj x kC iX).2.1 .any,.v (.bool (qj x kC iX).2.2)]∧s' = s):=by
 refine ab func74 rfl ntmps74 results74 (by simp) ?_;obtain ⟨R,hR⟩ : ∃ R,R = qj x kC iX:=⟨_,rfl⟩;rw [← hR];have hS : ∀ i,i < kC.length→(List.take 1 (List.drop i ((bw kC).map aV)))[0]? = some (AV.v (.int .i64 (kC.getD i 0 : Nat))):=by
  intro i hi;simp [List.getElem?_take,bw,hi,aV]
 have hlen:=cJ kC;obtain ⟨L,hL⟩ : ∃ L,L = ej x kC:=⟨_,rfl⟩;have hLt:=fun i (h : i < kC.length)=>Gi x kC h;rw [← hL] at hLt;have hs : s.le s:=AS.le.refl _;have xN : ∀ a b : AV,lW 2 [a,b] = [a,b]:=fun _ _=>rfl;unfold aR aj;rw [hlen];generalize bw kC = U at *
 refine jA ?_;refine jA ?_;refine wK fun K hK=>?_;refine jA ?_;refine al ?_;refine aE (fun E s2=>∃ (i : Nat) (y : List UInt8) (z : AV),i≤kC.length∧y = cz x i∧(∀ j,j < i→nn (cz x j) = iX j)∧E 15 = .v (.int .i64 i)∧E 14 = .v (.int .i64 kC.length)∧E 13 = .sl 1 kC.length (U.map aV) .any∧E 0 = .sl 1 y.length (y.map ai) .any∧E 2 = .qK k cd∧E 9 = z∧cO 2 s s2 z i (aK bY.cells (L.take i))∧s.le s2)
  (fun E _=>match E 15 with | .v (.int _ i)=>kC.length - i.toNat | _=>0) ?_ ?_
 ·exact ⟨0,x,bZ,Nat.zero_le _,rfl,fun j h=>absurd h (Nat.not_lt_zero _),rfl,rfl,rfl,rfl,rfl,rfl,cO.nil _ _ _,hs⟩
 ·rintro E1 s2 ⟨i,y,z,hi,hy,Fo,g15,g14,g13,g0,g2,g9,hz,hle⟩ -
  have hyl:=Gb x hx i;rw [← hy] at hyl;by_cases bc : i < kC.length
  ·have bS : ((i : Nat) : Int) < ((kC.length : Nat) : Int):=(by omega);have dr : (0 : Int)≤((i : Nat) : Int):=(by omega);have hSi:=hS i bc;have ft:=hLt i bc;rw [← hy] at ft;have c1:=fun s=>mS (Γ:=Γ) ev ig y hyl s;have c2:=fun s=>fe (Γ:=Γ) (pW y) (Jx y) s;have c3:=hp i bc;have c4:=fun s=>kO (Γ:=Γ) ev ig y gj hyl (by decide) s;have hy2 : Kdf.derive y gj = cz x (i + 1):=(by rw [hy]; rfl);have hpb : nn (cz x i) = 3 ^ pW y % PP:=(by rw [← hy]; rfl);generalize hky : pW y = ky at *
   generalize hpy : 3 ^ ky % PP = py at *
   generalize kC.getD i 0 = u at *
   generalize Kdf.derive y gj = y2 at *
   unfold aj gj at c4;unfold aj at c1;refine jB (Ai @g15 (Ai @g14 (decide_eq_true bS))) ?_;refine wK fun K2 aW=>?_;refine jE ?_;refine ag ?_;refine aW _ _ ?_;clear aW K2;refine wK fun K3 bC=>?_;refine al ?_;refine jB (Ai @g13 (Ai @g15 (Ai @bS (Ai @dr @hSi)))) ?_;refine jS @g0 fun K hK=>?_;refine ad (c1 _) ?_;rintro r s3 ⟨rfl,rfl⟩;refine jR hK ?_;clear hK K;refine wK fun K4 ei=>?_;refine jS (Ai @g15 @g2) fun K hK=>?_;refine ad (c2 _) ?_;rintro r s4 ⟨rfl,rfl⟩;refine jN (Ai @g15 @g2) ?_;refine ⟨hk,?_⟩;refine ad (c3 _) ?_;rintro r s5 ⟨rfl,rfl⟩;by_cases he : py = iX i
   ·have e1 : ((py : Int) != (iX i : Int)) = false:=(by rw [he]; simp);refine jV @e1 hK ?_;clear hK K;refine jF ?_;refine ag ?_;refine ei _ _ ?_;clear ei K4;refine wK fun K5 lU=>?_;have cW : ∀ (E : Env) (s6 : AS) (z' : AV),E 15 = .v (.int .i64 i)→E 14 = .v (.int .i64 kC.length)→E 13 = .sl 1 kC.length (U.map aV) .any→E 0 = .sl 1 y.length (y.map ai) .any→E 2 = .qK k cd→E 9 = z'→cO 2 s s6 z' (i + 1) (aK bY.cells (L.take (i + 1)))→s.le s6→K5 E s6:=by
     intro E s6 z' f15 f14 f13 f0 f2 f9 fz PU;refine lU _ _ ?_;clear lU K5;refine jU @f0 fun K hK=>?_;refine ad (c4 _) ?_;rintro r s7 ⟨rfl,rfl⟩;refine jR hK ?_;clear hK K;refine bC _ _ ?_;clear bC K3;refine jD (Ai @f15 (bt i (by omega))) ?_;refine ⟨⟨i + 1,y2,z',bc,hy2,?_,rfl,f14,f13,rfl,f2,f9,fz,PU⟩,?_⟩
     ·intro j hj;by_cases e : j = i
      ·subst e;rw [hpb,he]
      ·exact Fo j (by omega)
     ·simp only [g15,aF,↓reduceIte];omega
    clear bC;rcases hz with ⟨rfl,ic,BT⟩ | ⟨tk,ek,rfl,vB,zV⟩
    ·refine wE fun K hK=>?_;simp only [↓DN,Qa,Qb,Qc,Qd,Qe,Qf,Qg,Qh,reduceCtorEq,↓reduceIte,Na,Nb,Nc,Nk,Nf,Ng,Nh,Za,Zb,Zc,TT,g9,bZ,xN];intro tk vB;refine hK _ _ (cW _ _ (.sl 2 1 [.v (.int .i64 (u : Nat)),.v (.int .u64 (ky : Nat))] (.own tk 0)) g15 g14 g13 g0 g2 rfl ?_ ?_)
     ·refine .inr ⟨tk,0,?_,by simp [AS.bo],bN hle vB⟩;rw [ft,kQ,BT];subst ic;rfl
     ·exact AS.bG hle (bN hle vB) 0
    ·refine jU (Ai @g9 (Ai @vB @xN)) fun K hK=>?_;refine ⟨by omega,by omega,hK _ _ (cW _ _ (.sl 2 (i + 1) (aK bY.cells (L.take i) ++ [.v (.int .i64 (u : Nat)),.v (.int .u64 (ky : Nat))]) (.own tk (ek + 1))) g15 g14 g13 g0 g2 rfl ?_ ?_)⟩
     ·exact .inr ⟨tk,ek + 1,by rw [ft,kQ]; rfl,by simp [AS.bo],zV⟩
     ·exact AS.bG hle zV (ek + 1)
   ·have e1 : ((py : Int) != (iX i : Int)) = true:=by
     rw [bne_iff_ne];omega
    have hRn : R = ([],[],false):=by
     rw [hR];unfold qj;rw [D7 bc (by rw [hpb]; exact he)];rfl
    refine jV @e1 hK ?_;clear hK K;refine jE ?_;refine jA ?_;refine jI ?_;rw [hRn];exact ⟨_,_,AV.uD AV.aJ AV.aJ (AV.aA.refl _),hle,rfl,rfl⟩
  ·have bS : ¬ ((i : Nat) : Int) < ((kC.length : Nat) : Int):=(by omega);obtain rfl : i = kC.length:=(by omega);have hRg : R = (L,cz x kC.length,true):=by
    rw [hR,hL];unfold qj;rw [wk Fo];rfl
   refine jB (Ai @g15 (Ai @g14 (decide_eq_false bS))) ?_;refine wK fun K2 aW=>?_;refine jF ?_;refine aC ?_;simp only [az,aw,if_true];refine hK _ _ ?_;clear hK aW K2 K;refine jB (Ai @g9 @g0) ?_;refine jI ?_;rw [hRg];rw [List.take_of_length_le (by rw [hL,lK]; exact Nat.le_refl _)] at hz;have Uw : L.length = kC.length:=(by rw [hL,lK]);unfold ke;simp only;rw [Uw,← hy];exact ⟨_,_,AV.uD hz.aA (AV.aA.refl _) (AV.aA.refl _),hle,rfl,rfl⟩
theorem Va (P : bY→Bool) (h : bY) : cy (fun i=>P ([h].getD i ⟨0,0⟩)) [h].length 0 = if P h = true then 0 else -1:=by
 cases hp : P h <;> simp [cy,hp]
theorem An (ev : Γ 0 = ew Sha.H0) (ig : Γ 1 = Sha.K.map wV) (S : aM) (uu : S.c7.length≤2 ^ 40) (nodes : List Int) (hn : nodes.length≤2 ^ 40) (h : bY) (ctx : List UInt8) (Dh : ctx.length≤2 ^ 30) (i0 : Nat) (ic : i0 < nodes.length)
  (he : nodes[i0] = h.node) (OV : ∀ j,(hj : j < nodes.length)→j < i0→nodes[j]≠h.node) (his : i0 < S.c7.length) (ie : Ak h.key (S.c7[i0]).ju) (lT : (S.c7[i0]).text.length≤2 ^ 30) (s : AS) :
  ah prog Γ 79 [.agg S.cells,aR nodes .any,ke [h],aj ctx .any] s (fun r s'=>r = .eJ [aj (oC h.key (S.c7[i0]).ju (S.c7[i0]).text gj ctx) .any,.v (.int .i64 ((oD h.key (S.c7[i0]).ju (S.c7[i0]).text gj ctx : Nat) : Int))]∧s' = s):=by
 refine ab func79 rfl ntmps79 results79 (by simp) ?_;obtain ⟨qk,qs⟩:=S;simp only at uu his ie lT ⊢;have yO : ∀ (n : Int) (s : AS),ah prog Γ 130 [.sl 2 [h].length (aK bY.cells [h]) .any,.qK 131 [.dq [.v (.int .i64 n)]]] s (fun r s'=>r = .v (.int .i64 (if (h.node == n) = true then 0 else -1))∧s' = s):=fun n s=>by
  have:=rB (Γ:=Γ) [h] (by simp) .any 131 (by kernel_rfl) [.dq [.v (.int .i64 n)]] (fun x=>x.node == n) (fun x _ s=>Bm x n s) s;rwa [Va (fun x=>x.node == n) h] at this
 have dI:=fN (c:=aY.cells) (k:=2) (fun _=>rfl) his;have Re:=fN (c:=bY.cells) (k:=2) (l:=[h]) (i:=0) (fun _=>rfl) (by simp);have OE:=fun s=>OA (Γ:=Γ) ev ig h.key (qs[i0]).ju ie (qs[i0]).text gj ctx (by decide) Dh lT s;simp only [aM.cells];generalize aK aY.cells qs = Y at *
 generalize qs[i0] = q at *
 obtain ⟨qf,qt⟩:=q;simp only at OE ⊢;unfold aY.cells at dI;simp only at dI;have Iq : ∀ s,ah prog Γ 132 [.v (.int .u64 h.key),.agg [.v (.int .u64 qf),aj qt .any],.sl 1 4 [.v (.int .u8 112),.v (.int .u8 97),.v (.int .u8 116),.v (.int .u8 104)] .new,aj ctx .any] s
   (fun r s'=>r = .eJ [aj (oC h.key qf qt gj ctx) .any,.v (.int .i64 ((oD h.key qf qt gj ctx : Nat) : Int))]∧s' = s):=fun s =>
  ah.iU (eL.aA.cons (AV.aA.refl _) (eL.aA.cons (AV.aA.refl _) (eL.aA.cons (AV.bJ (sp:=.new)) (eL.aA.cons (AV.aA.refl _) eL.aA.nil)))) (OE s)
 clear OE;generalize oC h.key qf qt gj ctx = RT at *
 generalize oD h.key qf qt gj ctx = RE at *
 obtain ⟨Fl,np⟩:=h;simp only [ke,List.length_singleton,Nat.zero_mul,List.drop_zero,List.getElem_cons_zero] at yO Re Iq he OV ⊢;generalize aK bY.cells [⟨Fl,np⟩] = X at *
 unfold bY.cells at Re;simp only at Re;unfold aR aj;unfold aj at Iq dI;have h01 : (0 : Int) < ((1 : Nat) : Int):=(by decide);refine aU 4 (by decide) ?_;intro K hK;refine jM ?_;intro o1 h1;refine hK _ _ o1 _ rfl h1 ?_;clear hK K h1;refine wK fun K hK=>?_;refine jA ?_;refine al ?_;refine aE (fun E s2=>∃ i : Nat,i≤i0∧E 15 = .v (.int .i64 i)∧E 14 = .v (.int .i64 nodes.length)∧E 13 = .sl 1 nodes.length (nodes.map aV) .any∧E 2 = .sl 2 1 X .any∧E 3 = .sl 1 ctx.length (ctx.map ai) .any∧E 4 = .dq [.v (.int .u64 qk),.sl 2 qs.length Y .any]∧s2 = s)
  (fun E _=>match E 15 with | .v (.int _ i)=>nodes.length - i.toNat | _=>0) ?_ ?_
 ·exact ⟨0,Nat.zero_le _,rfl,rfl,rfl,rfl,rfl,rfl,rfl⟩
 ·rintro E1 s2 ⟨i,hi,g15,g14,g13,g2,g3,g4,rfl⟩ -
  have Pq : i < nodes.length:=(by omega);have bS : ((i : Nat) : Int) < ((nodes.length : Nat) : Int):=(by omega);have dr : (0 : Int)≤((i : Nat) : Int):=(by omega);have hS : (List.take 1 (List.drop i (nodes.map aV)))[0]? = some (AV.v (.int .i64 nodes[i])):=by
   simp [List.getElem?_take,Pq,aV]
  have hb:=OV i Pq;have hic:=fun s=>yO nodes[i] s;refine jB (Ai @g15 (Ai @g14 (decide_eq_true bS))) ?_;refine wK fun K2 aW=>?_;refine jE ?_;refine ag ?_;refine aW _ _ ?_;clear aW K2;refine wK fun K3 bC=>?_;refine al ?_;refine aU 11 (by decide) ?_;intro K4 ei;refine jN (Ai @g13 (Ai @g15 (Ai @bS (Ai @dr @hS)))) ?_;intro o2 q2;refine ei _ _ o2 _ rfl q2 ?_;clear ei K4 q2;refine jS @g2 fun K hK=>?_;refine ad (hic _) ?_;rintro r s3 ⟨rfl,rfl⟩;by_cases hii : i < i0
  ·have dp : (Fl == nodes[i]) = false:=by
    rw [beq_eq_false_iff_ne];exact fun k=>hb hii k.symm
   rw [dp];simp only [Bool.false_eq_true,if_false];refine jR hK ?_;clear hK K;refine jA ?_;refine jF ?_;refine ag ?_;simp only [aw,az,if_true,if_false];refine bC _ _ ?_;clear bC K3;refine jD (Ai @g15 (bt i (by omega))) ?_;refine ⟨⟨i + 1,by omega,rfl,g14,g13,g2,g3,g4,rfl⟩,?_⟩;simp only [g15,aF,↓reduceIte];omega
  ·obtain rfl : i = i0:=(by omega);have hee : (Fl == nodes[i]) = true:=by
    rw [he];simp
   rw [hee];simp only [if_true];have kR : ((i : Nat) : Int) < ((qs.length : Nat) : Int):=(by omega);refine jR hK ?_;clear hK K;refine jA ?_;refine jE ?_;refine bB T.mixed [13] (by kernel_rfl) ?_;intro K hK;simp only [↓DM,bL,DX,Nz,↓DN,Qa,Qb,Qc,Qd,Qe,Qf,Qg,Qh,reduceCtorEq,↓reduceIte,Na,Nb,Nc,Nk,Nf,Ng,Nh,Za,Zb,Zc,TT,g2,g3,g4,dr,kR,dI,Re,h01,List.replicate_succ,List.replicate_zero];refine ad (Iq _) ?_;rintro r s4 ⟨rfl,rfl⟩;refine jR hK ?_;clear hK K;exact jJ
theorem Rf : ∀ m≤5,∀ leaf < 2 ^ m,∀ own < 2 ^ m,cy (fun i=>mT ((bw (aH leaf (2 ^ m))).getD i 0) (own : Nat)) (aH leaf (2 ^ m)).length 0 = R5 leaf (2 ^ m) own∧(own≠leaf→0≤R5 leaf (2 ^ m) own∧(R5 leaf (2 ^ m) own).toNat < (aH leaf (2 ^ m)).length):=by decide +kernel
theorem xbi {leaf l own : Nat} (hl : Fit l) (h : leaf < l) (ho : own < l) (dp : own≠leaf) :
    ∃ a : Nat,a < (aH leaf l).length∧cy (fun i=>mT ((bw (aH leaf l)).getD i 0) (own : Nat)) (bw (aH leaf l)).length 0 = (a : Int)∧R5 leaf l own = (a : Int):=by
  obtain ⟨m,hm,rfl⟩:=hl.pow;obtain ⟨h1,h2⟩:=Rf m hm leaf h own ho;obtain ⟨h3,h4⟩:=h2 dp;refine ⟨(R5 leaf (2 ^ m) own).toNat,h4,?_,by omega⟩;rw [cJ,h1];omega
theorem Ir (l : List Nat) (a : Nat) : (bw (l.drop a)).map aV = ((bw l).map aV).drop a:=by
  simp [bw,List.map_drop]
theorem Rg (l : List bY) : (aK bY.cells l).all AV.one = true:=by
 rw [List.all_eq_true];intro c hc;simp only [aK,List.mem_flatten,List.mem_map] at hc;obtain ⟨_,⟨n,-,rfl⟩,hc⟩:=hc;simp only [bY.cells,List.mem_cons,List.not_mem_nil,or_false] at hc;rcases hc with rfl | rfl <;> rfl
theorem Dk (ev : Γ 0 = ew Sha.H0) (ig : Γ 1 = Sha.K.map wV) (hG : Γ 3 = fM.map pg) (t : List ao) (ht : gG t) (MA : t.length≤2 ^ 30) (hw : ∀ n ∈ t,p5 n) (hr : bO t) (lf : Nat) (hm : l7 t lf)
  (p : bE) (hp : p.steps.length = (aH lf (bj t)).length) (ow : Nat) (Zz : l7 t ow) (dp : ow≠lf) (h : bY) (ctx : List UInt8) (Dh : ctx.length≤2 ^ 30) (fresh : List Int) (hf : fresh.length≤2 ^ 40) (hnf : (ow : Int) ∉ fresh) (xbj : (p7 t lf p fresh).2 = 0)
  (a : Nat) (ha : R5 lf (bj t) ow = (a : Int)) (iS : a < p.steps.length) (i0 : Nat) (ic : i0 < (bQ t (cC (nodeAt lf (bj t) a) : Nat) fresh).length) (he : (bQ t (cC (nodeAt lf (bj t) a) : Nat) fresh)[i0] = h.node)
  (OV : ∀ j,(hj : j < (bQ t (cC (nodeAt lf (bj t) a) : Nat) fresh).length)→j < i0→(bQ t (cC (nodeAt lf (bj t) a) : Nat) fresh)[j]≠h.node) (his : i0 < (p.steps[a]).c7.length) (uu : (p.steps[a]).c7.length≤2 ^ 40) (ie : Ak h.key ((p.steps[a]).c7[i0]).ju)
  (lT : ((p.steps[a]).c7[i0]).text.length≤2 ^ 30) (xbk : h.node ∉ bw (aH lf (bj t))) (x : List UInt8) (hx : oC h.key ((p.steps[a]).c7[i0]).ju ((p.steps[a]).c7[i0]).text gj ctx = x) (hE : oD h.key ((p.steps[a]).c7[i0]).ju ((p.steps[a]).c7[i0]).text gj ctx = 0)
  (xez : x.length = 32) (Lc : rW x ((aH lf (bj t)).drop a).length (fun i=>(p.steps.getD (a + i) ⟨0,[]⟩).key) = true) (s : AS) :
  ah prog Γ 27 [bA t,.v (.int .i64 lf),.agg p.cells,.v (.int .i64 ow),ke [h],aj ctx .any,aR fresh .any] s
   (fun r s'=>r = .eJ [ke (h :: ej x ((aH lf (bj t)).drop a)),aj (cz x ((aH lf (bj t)).length - a)) .any,.v (.int .i64 0)]∧s' = s):=by
 refine ab func27 rfl ntmps27 results27 (by simp) ?_;obtain ⟨dS,xbd⟩ : Fit (bj t)∧t.length = 2 * bj t - 1:=by
  rcases dn (t:=t) with h | h
  ·exact absurd h hr.1
  ·exact h
 have oW:=dS.le;have pV : lf < bj t:=by
  have:=hm.2.1;omega
 have how : ow < bj t:=by
  have:=Zz.2.1;omega
 have GF:=ni dS pV;have OG:=fun s=>Bg (Γ:=Γ) ev ig hG t ht MA hw lf p (by omega) fresh hf s;rw [xbj] at OG;have px:=fun s=>lN (Γ:=Γ) t ht.1 ow s;rw [decide_eq_true Zz] at px;have QR:=fun s=>iK (Γ:=Γ) fresh (ow : Nat) (by omega) s;rw [decide_eq_false hnf] at QR;have fZ:=fun s=>iD (Γ:=Γ) hG t ht s;rw [if_pos hr] at fZ;have rm:=fun s=>kM (Γ:=Γ) hG lf (bj t) dS pV s;have GM:=fun s=>iE (Γ:=Γ) hG lf (bj t) dS pV s;have kE:=fun s=>jk (Γ:=Γ) hG t ht (cC (nodeAt lf (bj t) a) : Nat) fresh (by omega) s;obtain ⟨a',-,UG,zg⟩:=xbi dS pV how dp;obtain rfl : a' = a:=(by omega);have yO:=fun s=>oL (Γ:=Γ) (bw (aH lf (bj t))) (by rw [cJ]; omega) 78 (by kernel_rfl) [.dq [.v (.int .i64 ow)]] (fun x=>mT x ow) (fun x _ s=>Gf hG x ow s) s;rw [UG] at yO;have SI:=nj hr fresh;have R6 : (bQ t (cC (nodeAt lf (bj t) a') : Nat) fresh).length≤2 ^ 40:=by
  unfold bQ;split
  ·have h1:=SI (lv (cC (nodeAt lf (bj t) a') : Int).toNat) (cC (nodeAt lf (bj t) a') : Int).toNat;have h2:=pP (cC (nodeAt lf (bj t) a') : Int).toNat;have h3:=Nat.pow_le_pow_right (show 0 < 2 by decide) h2;omega
  ·exact Nat.zero_le _
 have gk:=fun s=>An (Γ:=Γ) ev ig p.steps[a'] uu (bQ t (cC (nodeAt lf (bj t) a') : Nat) fresh) R6 h ctx Dh i0 ic he OV his ie lT s;rw [hx,hE] at gk;have hps : p.steps.length = (aH lf (bj t)).length:=hp;have gy:=fun s=>Bn (Γ:=Γ) ev ig x (by omega) ((aH lf (bj t)).drop a') (by rw [List.length_drop]; omega) 80 (by kernel_rfl) [.dq p.cells,.dq [.v (.int .i64 a')]] (fun i=>(p.steps.getD (a' + i) ⟨0,[]⟩).key) (fun i hi s=>by
  rw [List.length_drop] at hi;exact Gg p a' i (by omega) (by omega) s) s
 have hct : qj x ((aH lf (bj t)).drop a') (fun i=>(p.steps.getD (a' + i) ⟨0,[]⟩).key) = (ej x ((aH lf (bj t)).drop a'),cz x ((aH lf (bj t)).length - a'),true):=by
  unfold qj;rw [if_pos Lc,List.length_drop]
 rw [hct] at gy;simp only at gy;have vA:=fun s=>xp (Γ:=Γ) [h] (by simp) (by simp) s;have SJ:=fun tk s=>Bl (Γ:=Γ) [h] (by simp) (.own tk 0) 83 (by kernel_rfl) [.dq [aR (bw (aH lf (bj t))) .any]] (fun y=>decide (y.node ∈ bw (aH lf (bj t)))) (fun y _ s=>Ge y _ (by rw [cJ]; omega) s)
  (fun y hy=>by rw [List.mem_singleton.1 hy]; exact decide_eq_false xbk) s
 have Uw:=lK x ((aH lf (bj t)).drop a');rw [List.length_drop] at Uw;have BT : (ej x ((aH lf (bj t)).drop a')).length≠0:=(by omega);have lY:=Rg (ej x ((aH lf (bj t)).drop a'));have SK : ke (h :: ej x ((aH lf (bj t)).drop a')) = .sl 2 (1 + (ej x ((aH lf (bj t)).drop a')).length) (aK bY.cells [h] ++ aK bY.cells (ej x ((aH lf (bj t)).drop a'))) .any:=by
  rw [← kQ];unfold ke;rw [List.length_cons,Nat.add_comm,List.singleton_append]
 have Gm : (bw ((aH lf (bj t)).drop a')).length = (aH lf (bj t)).length - a':=(by rw [cJ,List.length_drop]);have Gw:=cJ (aH lf (bj t));have Rw : List.drop a' (List.take (aH lf (bj t)).length ((bw (aH lf (bj t))).map aV)) = (bw ((aH lf (bj t)).drop a')).map aV:=by
  rw [Ir,List.take_of_length_le (by rw [List.length_map,cJ]; exact Nat.le_refl _)]
 have HD : (bw (cR lf (bj t))).length = (aH lf (bj t)).length:=(by simp [cJ,cR]);have TQ : (List.take 1 (List.drop a' ((bw (cR lf (bj t))).map aV)))[0]? = some (AV.v (.int .i64 (cC (nodeAt lf (bj t) a') : Nat))):=by
  have hi : a' < (aH lf (bj t)).length:=(by omega);simp [List.getElem?_take,bw,cR,hi,aV]
 have ir:=fN (c:=aM.cells) (k:=2) (fun _=>rfl) iS;rw [SK];obtain ⟨pk,pp,ps⟩:=p;simp only [bE.cells] at *
 clear hct Lc SI R6 hE hx ie lT his uu OV he ic UG zg ha Zz hm xbj xbk SK hw;generalize hY : aK aM.cells ps = Y at *
 generalize ps[a'] = q at *
 obtain ⟨qk,qs⟩:=q;unfold aM.cells at gk ir;simp only at gk ir;generalize bw (cR lf (bj t)) = SD at *
 unfold bA aR at *
 unfold ke aj at *
 rw [Gm] at gy;rw [Gw] at yO rm SJ;generalize cC (nodeAt lf (bj t) a') = sd at *
 generalize bQ t (sd : Nat) fresh = RT at *
 generalize cz x ((aH lf (bj t)).length - a') = y at *
 generalize ej x ((aH lf (bj t)).drop a') = CL at *
 generalize bw ((aH lf (bj t)).drop a') = U2 at *
 generalize aH lf (bj t) = P at *
 generalize bw P = U at *
 have fC : ((a' : Nat) : Int)≤((P.length : Nat) : Int):=(by omega);have qM : (0 : Int)≤((a' : Nat) : Int):=(by omega);have gX:=Int.le_refl ((P.length : Nat) : Int);have xeA : ((a' : Nat) : Int) < ((ps.length : Nat) : Int):=(by omega);have kR : ((a' : Nat) : Int) < ((SD.length : Nat) : Int):=(by omega);have e1 : ((ow : Int) == (lf : Int)) = false:=by
  rw [beq_eq_false_iff_ne];omega
 have e2 : ((x.length : Int) != 32) = false:=(by rw [xez]; rfl);have R3 : ((0 : Int) != 0) = false:=rfl;have e01 : (((0 : Nat) : Int) != 0) = false:=rfl;refine fX 9 10 (by decide) (by decide) (by decide) ?_;intro K hK;refine jM ?_;intro o1 q1 o2 q2;refine hK _ _ o1 o2 _ _ rfl rfl q1 (by rw [AS.hM]; exact q2) ?_;clear hK K q1 q2;refine wK fun K hK=>?_;refine jK (OG _) ?_;rintro s1 rfl;refine jB @R3 ?_;refine jF ?_;refine ag ?_;refine hK _ _ ?_;clear hK K;refine wK fun K hK=>?_;refine jQ fun K hK=>?_;refine ad (px _) ?_;rintro r s2 ⟨rfl,rfl⟩;refine jN @e1 ?_;refine ad (QR _) ?_;rintro r s3 ⟨rfl,rfl⟩;refine jR hK ?_;clear hK K;refine jF ?_;refine ag ?_;refine hK _ _ ?_;clear hK K;refine jK (fZ _) ?_;rintro s4 rfl;refine aU 20 (by decide) ?_;intro K hK;refine jM ?_;refine ad (rm _) ?_;rintro r s5 ⟨rfl,rfl⟩;refine jM ?_;refine ad (GM _) ?_;rintro r s6 ⟨rfl,rfl⟩;refine jM ?_;intro o3 q3;refine hK _ _ o3 _ rfl q3 ?_;clear hK K q3;refine aU 22 (by decide) ?_;intro K hK;refine jM ?_;refine ad (yO _) ?_;rintro r s7 ⟨rfl,rfl⟩;refine jM ?_;intro o4 q4;refine hK _ _ o4 _ rfl q4 ?_;clear hK K q4;refine bB T.mixed [11,14] (by kernel_rfl) ?_;intro K hK;refine jN (Ai @qM (Ai @xeA (Ai @ir (Ai @kR @TQ)))) ?_;refine ad (kE _) ?_;rintro r s8 ⟨rfl,rfl⟩;refine jM ?_;refine ad (gk _) ?_;rintro r s9 ⟨rfl,rfl⟩;refine jR hK ?_;clear hK K;refine wK fun K hK=>?_;refine jB (Ai @e01 @R3) ?_;refine jF ?_;refine ag ?_;refine hK _ _ ?_;clear hK K;refine jS (Ai @fC (Ai @qM (Ai @gX (Ai @Int.toNat_natCast (Ai @Nat.mul_one @Rw))))) fun K hK=>?_;refine ad (gy _) ?_;rintro r OS ⟨rfl,rfl⟩;refine jR hK ?_;clear hK K;refine wK fun K hK=>?_;refine jB @e2 ?_;refine jF ?_;refine ag ?_;refine hK _ _ ?_;clear hK K;refine jQ fun K hK=>?_;refine ad (vA _) ?_;rintro r P0 ⟨tk,rfl,ft,rfl⟩;refine jM ?_;refine ad (SJ tk _) ?_;rintro r s12 ⟨rfl,rfl⟩;refine jR hK ?_;clear hK K;refine jS (Ai @BT @lY) fun K hK=>?_;refine ⟨by omega,by omega,hK _ _ ?_⟩;clear hK K;refine jI ?_;exact ⟨_,_,AV.uD AV.bJ (AV.aA.refl _) (AV.aA.refl _),AS.bG (AS.bG (AS.le.refl _) ft 0) ft 1,rfl,rfl⟩
def tJ (t : List ao) (d ctx : List UInt8) (i n : Nat) : aY:=⟨iF (iG d i n),iH (nd t n).key gj ctx (cz d (i + 1)) (iG d i n)⟩
def gH (t : List ao) (d ctx : List UInt8) (i : Nat) (RT : List Int) : aM:=⟨nn (cz d (i + 1)),RT.map fun n=>tJ t d ctx i n.toNat⟩
def wm (d : List UInt8) (i : Nat) (n : Int) : Bool:=n6 (iF (iG d i n.toNat))
def stepG (d : List UInt8) (i : Nat) (RT : List Int) : Bool:=n6 (nn (cz d (i + 1))) && RT.all (wm d i)
theorem Vb {t : List ao} (hr : bO t) {m : Nat} (h : (nd t m).kind≠0) : wo (nd t m).key:=by
 have hn:=hr.nd m;rcases qC hn with hk | hk | hk
 ·exact absurd hk h
 ·have:=((m8 hk).1 hn).2.2.1;exact ⟨this.1,this.2.1⟩
 ·have:=((m9 hk).1 hn).2.1;exact ⟨this.1,this.2.1⟩
theorem OH {s : AS} {yA ss : Nat} {Z W : List AV} (VR : s.aq yA = none) (Bf : (if ss = yA then some Z else s.aq ss) = none) :
  ss≠yA∧((s.set yA Z).set ss W).aq yA = some Z∧((s.set yA Z).set ss W).aq ss = some W∧s.le ((s.set yA Z).set ss W)∧s.aq ss = none:=by
 have dp : ss≠yA:=(fun e=>by rw [if_pos e] at Bf; cases Bf);rw [if_neg dp] at Bf;exact ⟨dp,by rw [AS.ae _ (Ne.symm dp)]; exact AS.aa _ _ _,AS.aa _ _ _,AS.aB (AS.aB (AS.le.refl s) VR _) Bf _,Bf⟩
theorem none_le {s s2 : AS} (h : s.le s2) {o : Nat} (ho : s2.aq o = none) : s.aq o = none:=by
 cases hx : s.aq o with
 | none=>rfl
 | some cs=>rw [h.aq o cs hx] at ho; cases ho
theorem u7 {s s2 : AS} (h : s.le s2) {o : Nat} (ho : s.aq o = none) (cs : List AV) : s.le (s2.set o cs):=AS.aB h ho cs
theorem Di (ev : Γ 0 = ew Sha.H0) (ig : Γ 1 = Sha.K.map wV) (hG : Γ 3 = fM.map pg) (t : List ao) (ht : gG t) (hr : bO t) (i : Nat) (hi : i < 256) (sd : Nat) (JI : sd < t.length)
  (d ctx : List UInt8) (hd : d.length≤2 ^ 36) (Dh : ctx.length≤2 ^ 30) (fresh : List Int) (hf : fresh.length≤2 ^ 40) (s : AS) :
  ah prog Γ 48 [bA t,.v (.int .i64 i),.v (.int .i64 sd),aj d .any,aj ctx .any,aR fresh .any] s
   (fun r s'=>r = .eJ [.agg (if stepG d i (bQ t sd fresh) = true then gH t d ctx i (bQ t sd fresh) else ⟨0,[]⟩).cells,.v (.int .i64 (if stepG d i (bQ t sd fresh) = true then 0 else 30))]∧s' = s):=by
 refine ab func48 rfl ntmps48 results48 (by simp) ?_;have hRm : ∀ x ∈ bQ t sd fresh,∃ m : Nat,x = (m : Int)∧m < t.length∧(nd t m).kind≠0∧lS m sd:=fun x h=>I4 hr fresh JI h;have R6 : (bQ t sd fresh).length≤2 ^ 40:=by
  unfold bQ;split
  ·have h1:=nj hr fresh (lv (sd : Int).toNat) (sd : Int).toNat;have h2:=pP (sd : Int).toNat;have h3:=Nat.pow_le_pow_right (show 0 < 2 by decide) h2;omega
  ·exact Nat.zero_le _
 have xj3 : t.length≤63:=by
  rcases dn (t:=t) with h | h
  ·exact absurd h hr.1
  ·have:=h.1.le;omega
 have kE:=fun s=>jk (Γ:=Γ) hG t ht sd fresh (by omega) s;have mR:=fun s=>p6 (Γ:=Γ) ev ig d hd i (by omega) s;have uu:=qJ d i;have np:=fun s=>mS (Γ:=Γ) ev ig (cz d (i + 1)) (by omega) s;have MC:=fun s=>fe (Γ:=Γ) (pW (cz d (i + 1))) (Jx _) s;have TM:=fun n s=>ca (Γ:=Γ) n s;have xbl:=fun n (hn : n < 256) s=>D6 (Γ:=Γ) ev ig d hd i n hi hn s;have B3:=fun iX (hp : wo iX) sd (h : sd.length≤2 ^ 36) s=>Oy (Γ:=Γ) ev ig iX hp gj ctx (cz d (i + 1)) sd (by decide) Dh (by omega) h s;generalize bQ t sd fresh = RT at *
 obtain ⟨R,hR⟩ : ∃ R,R = (if stepG d i RT = true then gH t d ctx i RT else ⟨0,[]⟩):=⟨_,rfl⟩;obtain ⟨RE,hRE⟩ : ∃ RE,RE = (if stepG d i RT = true then (0 : Int) else 30):=⟨_,rfl⟩;rw [← hR,← hRE];have kN : stepG d i RT = false→R = ⟨0,[]⟩∧RE = 30:=(fun h=>by rw [hR,hRE,h]; exact ⟨rfl,rfl⟩);have lM : stepG d i RT = true→R = gH t d ctx i RT∧RE = 0:=(fun h=>by rw [hR,hRE,h]; exact ⟨rfl,rfl⟩);clear hR hRE;obtain ⟨L,hL⟩ : ∃ L,L = RT.map fun n=>tJ t d ctx i n.toNat:=⟨_,rfl⟩;have hSS : gH t d ctx i RT = ⟨nn (cz d (i + 1)),L⟩:=(by rw [hL]; rfl);rw [hSS] at lM;have Uw : L.length = RT.length:=(by rw [hL,List.length_map]);have hLt : ∀ k,(h : k < RT.length)→L.take (k + 1) = L.take k ++ [tJ t d ctx i (RT[k]).toNat]:=by
  intro k h;rw [List.take_succ_eq_append_getElem (by omega)];simp [hL]
 have xeC : ∀ k,(h : k < RT.length)→wm d i RT[k] = false→stepG d i RT = false:=by
  intro k h hb;unfold stepG;rw [Bool.and_eq_false_iff];right;rw [List.all_eq_false];exact ⟨RT[k],List.getElem_mem h,by rw [hb]; decide⟩
 have xbm : n6 (nn (cz d (i + 1))) = true→(∀ k,(h : k < RT.length)→wm d i RT[k] = true)→stepG d i RT = true:=by
  intro h1 h2;unfold stepG;rw [h1,Bool.true_and,List.all_eq_true];intro x hx;obtain ⟨k,hk,rfl⟩:=List.mem_iff_getElem.1 hx;exact h2 k hk
 have xbn : n6 (nn (cz d (i + 1))) = false→stepG d i RT = false:=by
  intro h;unfold stepG;rw [h];rfl
 generalize hpk : nn (cz d (i + 1)) = pk at *
 have xeD : 3 ^ pW (cz d (i + 1)) % PP = pk:=hpk;rw [xeD] at MC;have hsc : ∀ m : Nat,tJ t d ctx i m = ⟨iF (iG d i m),iH (nd t m).key gj ctx (cz d (i + 1)) (iG d i m)⟩:=fun _=>rfl;generalize cz d (i + 1) = sec at *
 have xN : ∀ a b : AV,lW 2 [a,b] = [a,b]:=fun _ _=>rfl;unfold aR at *
 unfold aj at *
 unfold bA at *
 refine jQ fun K hK=>?_;intro yA VR;refine hK _ _ ?_;clear hK K;refine jK (mR _) ?_;rintro s1 rfl;refine jQ fun K hK=>?_;refine ad (np _) ?_;rintro r s2 ⟨rfl,rfl⟩;refine jM ?_;refine ad (MC _) ?_;rintro r s3 ⟨rfl,rfl⟩;refine jM ?_;intro ss Bf;refine hK _ _ ?_;clear hK K;obtain ⟨dp,AR,Ia,hle,Bf⟩:=OH (W:=[.v (.int .u64 pk),.v (.slice none 0 0)]) VR Bf;generalize (s.set yA [.v (.int .u64 0),.v (.slice none 0 0)]).set ss [.v (.int .u64 pk),.v (.slice none 0 0)] = s3 at *
 have cW : ∀ (E : Env) (s5 : AS),stepG d i RT = false→s.le s5→s5.aq yA = some [.v (.int .u64 0),.v (.slice none 0 0)]→E 12 = .ptr yA 0→E 13 = .v (.int .i64 30)→cn prog (#[ResultVar.cell 12 76,ResultVar.tmp 13] : Array ResultVar).toList (fun r s'=>r = .eJ [.agg R.cells,.v (.int .i64 RE)]∧s' = s) .ret E s5:=by
  intro E s5 hb gY ho f12 f13;obtain ⟨rfl,rfl⟩:=kN hb;refine lA (o:=yA) (off:=0) f12 ho (by rw [T.RB]; decide) (by simp only [↓DN,Qa,Qb,Qc,Qd,Qe,Qf,Qg,Qh,reduceCtorEq,↓reduceIte,Na,Nb,Nc,Nk,Nf,Ng,Nh,Za,Zb,Zc,TT]; rfl) ?_;rw [f13];exact ⟨_,s,AV.dd (AV.j9 (eL.aA.cons (AV.aA.refl _) (eL.aA.cons AV.aJ eL.aA.nil))) (AV.aA.refl _),gY,rfl,rfl⟩
 have HC:=TM pk;obtain ⟨q,hq⟩ : ∃ q,q = n6 pk:=⟨_,rfl⟩;have Mv : (decide (2≤(pk : Int)) && decide ((pk : Int)≤2305843009213693949)) = q:=hq.symm;rw [Mv] at HC;rw [← hq] at xbn xbm;refine wK fun K hK=>?_;refine jS @Ia fun K hK=>?_;refine ad (HC _) ?_;rintro r s4 ⟨rfl,rfl⟩;cases q with
 | false =>
  refine jR hK ?_;clear hK K;refine jE ?_;refine jB @AR ?_;refine a7 ?_;try simp only [az,aw]
  exact cW _ _ (xbn rfl) (u7 hle VR _) (AS.aa _ _ _) rfl rfl
 | true =>
  refine jR hK ?_;clear hK K;refine jF ?_;refine ag ?_;refine hK _ _ ?_;clear hK K;refine wK fun K hK=>?_;refine jK (kE _) ?_;rintro s5 rfl;refine al ?_;refine aE (fun E s2=>∃ (k : Nat) (z : AV),k≤RT.length∧(∀ j,(h : j < RT.length)→j < k→wm d i RT[j] = true)∧E 37 = .v (.int .i64 k)∧E 36 = .v (.int .i64 RT.length)∧E 35 = .sl 1 RT.length (RT.map aV) .any∧E 0 = .sl 5 t.length (aK ao.cells t) .any∧E 1 = .v (.int .i64 i)∧E 3 = .sl 1 d.length (d.map ai) .any∧E 4 = .sl 1 ctx.length (ctx.map ai) .any ∧
    E 12 = .ptr yA 0∧E 14 = .sl 1 sec.length (sec.map ai) .any∧E 15 = .ptr ss 0∧s2.aq yA = some [.v (.int .u64 0),.v (.slice none 0 0)]∧s2.aq ss = some [.v (.int .u64 pk),z]∧cO 2 s s2 z k (aK aY.cells (L.take k))∧s.le s2)
   (fun E _=>match E 37 with | .v (.int _ k)=>RT.length - k.toNat | _=>0) ?_ ?_
  ·exact ⟨0,bZ,Nat.zero_le _,fun j _ h=>absurd h (Nat.not_lt_zero _),rfl,rfl,rfl,rfl,rfl,rfl,rfl,rfl,rfl,rfl,AR,Ia,cO.nil _ _ _,hle⟩
  ·clear AR Ia hle;rintro E1 s6 ⟨k,z,hk,Fo,O4,SG,g35,g0,g1,g3,g4,g12,g14,g15,AR,Ia,hz,hle⟩ -
   by_cases oT : k < RT.length
   ·have bS : ((k : Nat) : Int) < ((RT.length : Nat) : Int):=(by omega);have dr : (0 : Int)≤((k : Nat) : Int):=(by omega);obtain ⟨m,hm,hmt,OM,-⟩:=hRm RT[k] (List.getElem_mem oT);have hSi : (List.take 1 (List.drop k (RT.map aV)))[0]? = some (AV.v (.int .i64 (m : Nat))):=by
     simp [List.getElem?_take,oT,aV,hm]
    have ft:=hLt k oT;have hfb:=xeC k oT;have MF : wm d i RT[k] = n6 (iF (iG d i m)):=(by rw [hm]; rfl);rw [hm,Int.toNat_natCast,hsc] at ft;have c1:=fun s=>xbl m (by omega) s;have c2:=fun s=>B3 (nd t m).key (Vb hr OM) (iG d i m) (by have:=OD d i m; omega) s;have c3:=fun s=>TM (iF (iG d i m)) s;have dI:=fY hmt;have hkk:=Fo;generalize iF (iG d i m) = fr at *
    generalize iH (nd t m).key gj ctx sec (iG d i m) = tx at *
    generalize iG d i m = sd2 at *
    have c2' : ∀ s,ah prog Γ 107 [.v (.int .u64 (nd t m).key),.sl 1 4 [.v (.int .u8 112),.v (.int .u8 97),.v (.int .u8 116),.v (.int .u8 104)] .new,.sl 1 ctx.length (ctx.map ai) .any,.sl 1 sec.length (sec.map ai) .any,.sl 1 sd2.length (sd2.map ai) .any] s
      (fun r s'=>r = .eJ [.agg [.v (.int .u64 fr),.sl 1 tx.length (tx.map ai) .any],.v (.int .i64 ((0 : Nat) : Int))]∧s' = s):=fun s =>
     ah.iU (eL.aA.cons (AV.aA.refl _) (eL.aA.cons (AV.bJ (sp:=.new)) (eL.aA.refl _))) (c2 s)
    clear c2 Fo;generalize nd t m = N at *
    obtain ⟨n1,n2,n3,n4,n5⟩:=N;generalize aK ao.cells t = X at *
    unfold ao.cells at dI;simp only at c2';have kR : ((m : Nat) : Int) < ((t.length : Nat) : Int):=(by omega);have qM : (0 : Int)≤((m : Nat) : Int):=(by omega);have R3 : (((0 : Nat) : Int) == 0) = true:=rfl;have e01 : (((0 : Nat) : Int) != 0) = false:=rfl;refine jB (Ai @SG (Ai @O4 (decide_eq_true bS))) ?_;refine wK fun K2 aW=>?_;refine jE ?_;refine ag ?_;refine aW _ _ ?_;clear aW K2;refine wK fun K3 bC=>?_;refine al ?_;refine jB (Ai @g35 (Ai @O4 (Ai @bS (Ai @dr @hSi)))) ?_;refine kc T.mixed [17,18] [(1012,.sl 1 sd2.length (sd2.map ai) .any),(1013,.eJ [.agg [.v (.int .u64 fr),.sl 1 tx.length (tx.map ai) .any],.v (.int .i64 ((0 : Nat) : Int))])] [0,1,2,3,4,5,6,7,8,9,10,11,12,13,14,15,16,17,18,19] (by kernel_rfl) ?_;intro K hK;simp only [↓nU,↓lG,↓gS,↓gU,Nat.reduceAdd,↓gT,eF,dP,mK,bL,DX,Nat.reduceBEq,List.toList_toArray,List.map_cons,List.map_nil,aI,↓DN,Qa,Qb,Qc,Qd,Qe,Qf,Qg,Qh,reduceCtorEq,↓reduceIte,Na,Nb,Nc,Nk,Nf,Ng,Nh,Za,Zb,Zc,TT,g0,g1,g3,g4,g14,kR,qM,dI,List.replicate_succ,List.replicate_zero];refine IK c1 (IK c2' ?_);intro o ho;refine hK _ _ ?_;clear hK K;have xbo : ss≠o:=(fun e=>by subst e; rw [Ia] at ho; cases ho);have xbp : yA≠o:=(fun e=>by subst e; rw [AR] at ho; cases ho);have Gv:=(AS.ae s6 xbp [.v (.int .u64 fr),.sl 1 tx.length (tx.map ai) .any]).trans AR;have Hp:=(AS.ae s6 xbo [.v (.int .u64 fr),.sl 1 tx.length (tx.map ai) .any]).trans Ia;have Vk:=AS.aa s6 o [.v (.int .u64 fr),.sl 1 tx.length (tx.map ai) .any];have Vt : s.le (s6.set o [.v (.int .u64 fr),.sl 1 tx.length (tx.map ai) .any]):=AS.aB hle (none_le hle ho) _;have kz : cO 2 s (s6.set o [.v (.int .u64 fr),.sl 1 tx.length (tx.map ai) .any]) z k (aK aY.cells (L.take k)):=hz.own fun t e h _=>h;generalize s6.set o [.v (.int .u64 fr),.sl 1 tx.length (tx.map ai) .any] = s7 at *
    clear ho AR Ia hle hz xbp xbo;refine wK fun K4 ei=>?_;refine jS (Ai @R3 @Vk) fun K hK=>?_;refine ad (c3 _) ?_;rintro r s8 ⟨rfl,rfl⟩;obtain ⟨q2,Sa⟩ : ∃ q2,q2 = n6 fr:=⟨_,rfl⟩;have hq3 : (decide (2≤(fr : Int)) && decide ((fr : Int)≤2305843009213693949)) = q2:=Sa.symm;rw [hq3];cases q2 with
    | false =>
     simp only [↓bI,↓bp,bL,↓nU,↓lG,↓gS,↓gU,Nat.reduceAdd,↓gT,eF,dP,mK,bL,DX,Nat.reduceBEq,List.toList_toArray,List.map_cons,List.map_nil,aI,DX,Nat.reduceBEq,↓DN,Qa,Qb,Qc,Qd,Qe,Qf,Qg,Qh,reduceCtorEq,↓reduceIte,Na,Nb,Nc,Nk,Nf,Ng,Nh,Za,Zb,Zc,TT];refine hK _ _ ?_;clear hK K;refine jE ?_;refine jT fun K hK=>?_;refine hK _ _ (ei _ _ ?_);clear hK K ei K4;have e30 : ((30 : Int) != 0) = true:=rfl;refine wK fun K5 lU=>?_;refine jB @e30 ?_;refine jE ?_;refine jB (Ai @g12 @Gv) ?_;refine a7 ?_;try simp only [az,aw]
     exact cW _ _ (hfb (by rw [MF,← Sa])) (u7 Vt VR _) (AS.aa _ _ _) g12 rfl
    | true =>
     refine jR hK ?_;clear hK K;refine jF ?_;refine ag ?_;refine ei _ _ ?_;clear ei K4;refine wK fun K5 lU=>?_;refine jB @e01 ?_;refine jF ?_;refine ag ?_;refine lU _ _ ?_;clear lU K5;have yI : ∀ (E : Env) (s9 : AS) (z' : AV),E 37 = .v (.int .i64 k)→E 36 = .v (.int .i64 RT.length)→E 35 = .sl 1 RT.length (RT.map aV) .any→E 0 = .sl 5 t.length X .any→E 1 = .v (.int .i64 i)→E 3 = .sl 1 d.length (d.map ai) .any→E 4 = .sl 1 ctx.length (ctx.map ai) .any →
       E 12 = .ptr yA 0→E 14 = .sl 1 sec.length (sec.map ai) .any→E 15 = .ptr ss 0→s9.aq yA = some [.v (.int .u64 0),.v (.slice none 0 0)]→s9.aq ss = some [.v (.int .u64 pk),z']→cO 2 s s9 z' (k + 1) (aK aY.cells (L.take (k + 1)))→s.le s9→K3 E s9:=by
      intro E s9 z' f37 f36 f35 f0 f1 f3 f4 f12 f14 f15 j12 j15 jz Zt;refine bC _ _ ?_;clear bC K3;refine jD (Ai @f37 (bt k (by omega))) ?_;refine ⟨⟨k + 1,z',oT,?_,rfl,f36,f35,f0,f1,f3,f4,f12,f14,f15,j12,j15,jz,Zt⟩,?_⟩
      ·intro j hj VJ;by_cases e : j = k
       ·subst e;rw [MF,← Sa]
       ·exact hkk j hj (by omega)
      ·simp only [O4,aF,↓reduceIte];omega
     clear bC;rcases kz with ⟨rfl,ic,BT⟩ | ⟨tk,ek,rfl,vB,zV⟩
     ·refine wE fun K hK=>?_;simp only [↓DN,Qa,Qb,Qc,Qd,Qe,Qf,Qg,Qh,reduceCtorEq,↓reduceIte,Na,Nb,Nc,Nk,Nf,Ng,Nh,Za,Zb,Zc,TT,g15,Hp,Vk,bZ,xN];intro tk vB;have MG:=bN Vt vB;refine hK _ _ (yI _ _ (.sl 2 1 [.v (.int .u64 fr),.sl 1 tx.length (tx.map ai) .any] (.own tk 0)) O4 SG g35 g0 g1 g3 g4 g12 g14 g15 ?_ ?_ ?_ ?_)
      ·rw [AS.ae _ (Ne.symm dp)];exact Gv
      ·exact AS.aa _ _ _
      ·refine .inr ⟨tk,0,?_,by simp [AS.bo,AS.set],MG⟩;rw [ft,kQ,BT];subst ic;rfl
      ·exact AS.aB (AS.bG Vt MG 0) Bf _
     ·refine jU (Ai @g15 (Ai @Hp (Ai @Vk (Ai @vB @xN)))) fun K hK=>?_;refine ⟨by omega,by omega,?_⟩;refine hK _ _ (yI _ _ (.sl 2 (k + 1) (aK aY.cells (L.take k) ++ [.v (.int .u64 fr),.sl 1 tx.length (tx.map ai) .any]) (.own tk (ek + 1))) O4 SG g35 g0 g1 g3 g4 g12 g14 g15 ?_ ?_ ?_ ?_)
      ·rw [AS.ae _ (Ne.symm dp)];exact Gv
      ·exact AS.aa _ _ _
      ·exact .inr ⟨tk,ek + 1,by rw [ft,kQ]; rfl,by simp [AS.bo,AS.set],zV⟩
      ·exact AS.aB (AS.bG Vt zV (ek + 1)) Bf _
   ·have bS : ¬ ((k : Nat) : Int) < ((RT.length : Nat) : Int):=(by omega);obtain rfl : k = RT.length:=(by omega);obtain ⟨rfl,rfl⟩:=lM (xbm rfl fun j h=>Fo j h h);refine jB (Ai @SG (Ai @O4 (decide_eq_false bS))) ?_;refine wK fun K2 aW=>?_;refine jF ?_;refine aC ?_;simp only [az,aw,if_true];refine hK _ _ ?_;clear hK aW K2 K;rw [List.take_of_length_le (by omega)] at hz;refine jS (Ai @g15 (Ai @g12 (Ai @Ia @AR))) fun K hK=>?_;refine ⟨hz.one,hK _ _ ?_⟩;clear hK K;refine a7 ?_;try simp only [az,aw]
    refine lA (o:=yA) (off:=0) g12 (AS.aa _ _ _) (by rw [T.RB]; decide) (by simp only [↓DN,Qa,Qb,Qc,Qd,Qe,Qf,Qg,Qh,reduceCtorEq,↓reduceIte,Na,Nb,Nc,Nk,Nf,Ng,Nh,Za,Zb,Zc,TT]; rfl) ?_;unfold aM.cells;simp only;rw [Uw];exact ⟨_,s,AV.dd (AV.j9 (eL.aA.cons (AV.aA.refl _) (eL.aA.cons hz.aA eL.aA.nil))) (AV.aA.refl _),AS.aB hle VR _,rfl,rfl⟩
end Go.Proofs.YtbiefppedlodiaaGreatDoor
namespace Go.AM
open Go
def dC : AV→Option Nat
  | .sl _ _ _ (.own t _)=>some t
  | _=>none
def gr (sz : Nat) (s0 s : AS) (x : AV) (n : Nat) (cs : List AV) (x0 : AV) (n0 : Nat) (c0 : List AV) : Prop :=
  (x = x0∧n = n0∧cs = c0)∨∃ t e,x = .sl sz n cs (.own t e)∧s.own t = some e∧s0.own t = none
theorem gr.keep {sz n n0 : Nat} {s0 s s' : AS} {x x0 : AV} {cs c0 : List AV} (h : gr sz s0 s x n cs x0 n0 c0) (k : ∀ t,dC x = some t→s'.own t = s.own t) : gr sz s0 s' x n cs x0 n0 c0:=by
  rcases h with h | ⟨t,e,rfl,h1,h2⟩
  · exact .inl h
  · exact .inr ⟨t,e,rfl,(k t rfl).trans h1,h2⟩
theorem wJ {s : AS} {t t' g : Nat} (h : t'≠t) : (s.bo t g).own t' = s.own t':=by simp [AS.bo,aF,h]
theorem gr.bo {sz n n0 g tk : Nat} {s0 s : AS} {x x0 : AV} {cs c0 : List AV} (h : gr sz s0 s x n cs x0 n0 c0) (k : dC x≠some tk) : gr sz s0 (s.bo tk g) x n cs x0 n0 c0 :=
  h.keep fun t ht=>wJ fun e=>k (e ▸ ht)
theorem gr.I0 {sz n n0 g tk o : Nat} {s0 s : AS} {x x0 : AV} {cs c0 ds : List AV} (h : gr sz s0 s x n cs x0 n0 c0) (k : dC x≠some tk) : gr sz s0 ((s.bo tk g).set o ds) x n cs x0 n0 c0 :=
  h.keep fun t ht=>by
    show (s.bo tk g).own t = _;exact wJ fun e=>k (e ▸ ht)
theorem gr.new {sz n n0 t e : Nat} {s0 s : AS} {x0 : AV} {cs c0 : List AV} (h0 : s0.own t = none) (h : s.own t = some e) : gr sz s0 s (.sl sz n cs (.own t e)) n cs x0 n0 c0:=.inr ⟨t,e,rfl,h,h0⟩
theorem gr.fresh {sz n n0 tk : Nat} {s0 s : AS} {x x0 : AV} {cs c0 : List AV} (h : gr sz s0 s x n cs x0 n0 c0) (h0 : dC x0 = none) (k : s.own tk = none) : dC x≠some tk:=by
  rcases h with ⟨rfl,-⟩ | ⟨t,e,rfl,h1,h2⟩
  · rw [h0]; intro h; cases h
  · intro q;simp only [dC,Option.some.injEq] at q;subst q;rw [k] at h1;cases h1
theorem gr.aA {sz n n0 : Nat} {s0 s : AS} {x x0 : AV} {cs c0 : List AV} (h : gr sz s0 s x n cs x0 n0 c0) (k : x0.aA (.sl sz n0 c0 .any)) : x.aA (.sl sz n cs .any):=by
  rcases h with ⟨rfl,rfl,rfl⟩ | ⟨t,e,rfl,h1,h2⟩
  · exact k
  · exact AV.bJ
theorem oJ {P : Program} {E : Env} {s : AS} {b7 : AV→AS→Prop} {a T t1 t2 t3 t4 o off : Nat} {cs : List AV} {v : AV} (h1 : E a = .ptr o off) (h2 : s.aq o = some cs) (h3 : P.cellsOf T≠0) (h4 : oE P T (cs.drop off) = some v)
    (h : ∃ r s',(AV.eJ [v,E t1,E t2,E t3,E t4]).aA r∧s'.le s∧b7 r s') : cn P [.cell a T,.tmp t1,.tmp t2,.tmp t3,.tmp t4] b7 .ret E s:=by
  simp only [cn,bz,bD,dy,h1,h2,if_neg h3,h4];exact h
theorem AV.BX {l m : List AV} (h : eL.aA l m) : (AV.eJ l).aA (.eJ m):=by
  intro G v hv;simp only [au] at hv ⊢;obtain ⟨vs,rfl,h1⟩:=hv;exact ⟨vs,rfl,h G vs h1⟩
theorem eO {P : Program} {Γ : Nat→List AV} {N : Nat} {E : Env} {s : AS} {Q : Exit→Env→AS→Prop} {id : Nat} {L : List Oper} {y : Code}
    (h : ∀ K : Env→AS→Prop,(∀ E s,Lg P Γ N y Q E s→K E s)→AY P Γ N L.toArray L K E s) : Lg P Γ N (.seq (.region id L.toArray false) y) Q E s :=
  dv fun K hK=>awp_reg_end fun K2 aW=>h K2 fun E s k=>aW E s (hK E s k)
end Go.AM
