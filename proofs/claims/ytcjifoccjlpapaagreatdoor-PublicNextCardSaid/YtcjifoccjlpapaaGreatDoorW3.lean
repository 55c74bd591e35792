/- Contracts of functions, each walked once; each theorem states its conditions. -/
import Derived.Test.YtcjifoccjlpapaaGreatDoorAMp6
import Derived.Test.YtcjifoccjlpapaaGreatDoorW1
import Derived.Test.YtcjifoccjlpapaaGreatDoorW2
import Derived.Test.YtcjifoccjlpapaaGreatDoorAMp7
import Derived.Shelf.Slices.SearchI
import Derived.Shelf.Slices.Empties
import Derived.Test.YtcjifoccjlpapaaGreatDoorAMp5
set_option linter.unusedSimpArgs false
set_option linter.unusedVariables false
open Nat renaming reduceLT → Na, reduceLeDiff → Nb, reduceEqDiff → Nc, reduceAdd → Nk, reduceMul → Nf, reducePow → Ng, reduceSub → Nh, reduceBEq → Nz
open Int renaming reduceLT → Za, reduceLE → Zb, reduceToNat → Zc
open And renaming intro → Ai
open Go.AM renaming ashift → Qa, aconv → Qb, aindexAddr → Qc, aindex → Qd, aslice → Qe, abuiltin → Qf, awp_reg_seq → wS, awp_reg_end → wE, awp_seq_k → wK, awp_cond_k → wC
open Go.AM.AV renaming cells → Qg, one → Qh
set_option maxRecDepth 100000
set_option maxHeartbeats 8000000
namespace Go.Proofs.YtcjifoccjlpapaaGreatDoor
open Go Go.AM Go.Proofs Tryz
variable {Γ : Nat→List AV}
theorem eY (t : List aa) (ht : t.length≤2 ^ 61) (s : AS) : ah prog Γ 113 [ax t] s (fun r s'=>r = .v (.int .i64 (aY t))∧s' = s):=by
 refine ab func113 rfl ntmps113 results113 (by simp) ?_;have e0 : ou .i64 (jn .i64 (t.length : Int) 1) 2 = ((((t.length + 1) / 2 : Nat)) : Int):=(by rw [aQ _ (by omega),dR _ (by omega)]);obtain ⟨h,hh⟩ : ∃ h,h = (t.length + 1) / 2:=⟨_,rfl⟩;rw [← hh] at e0;unfold ax;refine jA ?_;refine jB @e0 ?_;refine wK fun K hK=>?_;refine jQ fun K hK=>?_;refine ae (uJ h _) ?_;rintro r s1 ⟨rfl,rfl⟩;by_cases hf : Fit h
 ·have T7:=hf.le;rw [decide_eq_true (mC.2 hf)];refine jM ?_;refine ae (n6 h _) ?_;rintro r s2 ⟨rfl,rfl⟩;rw [Fs hf];by_cases hw : t.length = 2 * h - 1
  ·have hl : aY t = h:=(by unfold aY; rw [← hh]; exact if_pos ⟨hf,hw⟩);refine jV (pU hw) hK ?_;clear hK K;refine jF ?_;refine ad ?_;refine hK _ _ ?_;clear hK K;refine jA ?_;refine jI ?_;rw [hl];exact jW ⟨rfl,rfl⟩
  ·have hl : aY t = 0:=(by unfold aY; rw [← hh]; exact if_neg (fun k=>hw k.2));refine jV (xz hw) hK ?_;clear hK K;refine jE ?_;refine jA ?_;refine jI ?_;rw [hl];exact jW ⟨rfl,rfl⟩
 ·have hl : aY t = 0:=(by unfold aY; rw [← hh]; exact if_neg (fun k=>hf k.1));rw [decide_eq_false (fun k=>hf (mC.1 k))];refine jR hK ?_;clear hK K;refine jE ?_;refine jA ?_;refine jI ?_;rw [hl];exact jW ⟨rfl,rfl⟩
theorem eu (t : List aa) (ht : t.length≤2 ^ 61) (i : Int) (s : AS) : ah prog Γ 115 [ax t,.v (.int .i64 i)] s (fun r s'=>r = .v (.bool (decide (bx t i)))∧s' = s):=by
 refine ab func115 rfl ntmps115 results115 (by simp) ?_;have lN:=fun s=>eY (Γ:=Γ) t ht s;unfold ax at lN ⊢;refine jA ?_;by_cases h0 : 0≤i
 ·refine jS (decide_eq_true h0) fun K hK=>?_;refine ae (lN _) ?_;rintro r s1 ⟨rfl,rfl⟩;by_cases h1 : i < (aY t : Int)
  ·obtain ⟨n,rfl⟩:=Int.eq_ofNat_of_zero_le h0;have hn : n < aY t:=(by omega);have hn2:=Tl hn;have qF:=fL t;have bN:=cT hn2;have hk : decide (bx t (n : Int)) = ((nd t (2 * n)).kind == 1):=by
    rw [Bool.eq_iff_iff,decide_eq_true_iff,beq_iff_eq];unfold bx;rw [Int.toNat_natCast];exact ⟨fun k=>k.2.2,fun k=>⟨h0,h1,k⟩⟩
   generalize nd t (2 * n) = N at *
   generalize au aa.cells t = X at *
   obtain ⟨k,nm,y,pa,u⟩:=N;unfold aa.cells at bN;have bK : (0 : Int)≤((2 * n : Nat) : Int):=(by omega);refine jV (Ai (decide_eq_true h1) (Ai (decide_eq_true hn) (Ai (bw n (by omega)) (Ai @af (Ai @hn2 (Ai @bK @bN)))))) hK ?_;clear hK K;refine jI ?_;rw [hk];exact jW ⟨rfl,rfl⟩
  ·have hk : decide (bx t i) = false:=decide_eq_false fun k=>h1 k.2.1;refine jV (decide_eq_false h1) hK ?_;clear hK K;refine jI ?_;rw [hk];exact jW ⟨rfl,rfl⟩
 ·have hk : decide (bx t i) = false:=decide_eq_false fun k=>h0 k.1;refine jB (decide_eq_false h0) ?_;refine jI ?_;rw [hk];exact jW ⟨rfl,rfl⟩
theorem kv (t : List aa) (ht : t.length≤2 ^ 61) (a k : Nat) (hak : a + k < 2 ^ 61) (s : AS) : ah prog Γ 117 [ax t,.v (.int .i64 a),.v (.int .i64 (((a + k : Nat) : Int) - 1))] s (fun r s'=>r = .v (.int .i64 (dF (bx t) a k))∧s' = s):=by
 refine ab func117 rfl ntmps117 results117 (by simp) ?_;have hm:=fun i s=>eu (Γ:=Γ) t ht i s;unfold ax at hm ⊢;generalize au aa.cells t = X at *
 refine jA ?_;refine jA ?_;refine wK fun K hK=>?_;refine jA ?_;refine ag ?_;refine aH (fun E s2=>∃ i : Nat,i≤k∧E 8 = .v (.int .i64 ((a + i : Nat) : Int))∧E 7 = .v (.int .i64 (dF (bx t) a i))∧E 0 = .sl 5 t.length X .any∧E 2 = .v (.int .i64 (((a + k : Nat) : Int) - 1))∧s2 = s)
  (fun E _=>match E 8 with | .v (.int _ i)=>a + k - i.toNat | _=>0) ?_ ?_
 ·exact ⟨0,Nat.zero_le _,rfl,rfl,rfl,rfl,rfl⟩
 ·rintro E1 s2 ⟨i,hi,g8,g7,g0,g2,rfl⟩ -
  refine wK fun K2 aX=>?_;by_cases aO : i < k
  ·have h1 : decide (((a + i : Nat) : Int)≤((a + k : Nat) : Int) - 1) = true:=decide_eq_true (by omega);refine jB (Ai @g8 (Ai @g2 @h1)) ?_;refine jE ?_;refine ad ?_;refine aX _ _ ?_;clear aX K2;refine wK fun K3 bB=>?_;refine ag ?_;have bO : ∀ (E : Env),E 8 = .v (.int .i64 ((a + i : Nat) : Int))→E 7 = .v (.int .i64 (dF (bx t) a (i + 1)))→E 0 = .sl 5 t.length X .any→E 2 = .v (.int .i64 (((a + k : Nat) : Int) - 1))→K3 E s2:=by
    intro E f8 f7 f0 f2;refine bB _ _ ?_;clear bB K3;refine jD (Ai @f8 (aQ (a + i) (by omega))) ?_;refine ⟨⟨i + 1,aO,rfl,f7,f0,f2,rfl⟩,?_⟩;simp only [g8,aG,↓reduceIte];omega
   clear bB;refine jS (Ai @g0 @g8) fun K hK=>?_;refine ae (hm _ _) ?_;rintro r s3 ⟨rfl,rfl⟩;have hc:=DV (bx t) a i;by_cases hp : bx t ((a + i : Nat) : Int)
   ·rw [decide_eq_true hp];refine jR hK ?_;clear hK K;refine jE ?_;refine jD (Ai @g7 (aQ (dF (bx t) a i) (by omega))) ?_;refine bO _ g8 ?_ g0 g2;have : dF (bx t) a (i + 1) = dF (bx t) a i + 1:=(by simp only [dF]; rw [if_pos hp]);rw [this];simp only [aG,Nc,↓reduceIte]
   ·rw [decide_eq_false hp];refine jR hK ?_;clear hK K;refine jF ?_;refine ad ?_;refine bO _ g8 ?_ g0 g2;have : dF (bx t) a (i + 1) = dF (bx t) a i:=(by simp only [dF]; rw [if_neg hp]; omega);rw [this];simp only [aG,g7,Nc,↓reduceIte]
  ·have h1 : decide (((a + i : Nat) : Int)≤((a + k : Nat) : Int) - 1) = false:=decide_eq_false (by omega);refine jB (Ai @g8 (Ai @g2 @h1)) ?_;refine jF ?_;refine aB ?_;simp only [av,aq,if_true];refine hK _ _ ?_;clear hK aX K2 K;obtain rfl : i = k:=(by omega);refine jB @g7 ?_;exact jJ
theorem og (t : List aa) (ht : t.length≤2 ^ 61) (name : List UInt8) (a : Nat) (ha : a≤2 ^ 60) (s : AS) : ah prog Γ 116 [ax t,ak name .any,.v (.int .i64 a)] s (fun r s'=>r = .v (.int .i64 (fa t name a))∧s' = s):=by
 refine ab func116 rfl ntmps116 results116 (by simp) ?_;have hm:=fun i s=>eu (Γ:=Γ) t ht i s;have bN:=fun i (h : i < t.length)=>cT (t:=t) h;obtain ⟨Q,hQ⟩ : ∃ Q : Nat→Bool,Q = fun (j : Nat)=>decide (bx t (j : Int)∧(nd t (2 * j)).name = name):=⟨_,rfl⟩;have bR : fa t name a = dH Q (iS t - a) a:=(by rw [hQ]; rfl);unfold ax at hm ⊢;generalize au aa.cells t = X at *
 refine jA ?_;refine wK fun K hK=>?_;refine jA ?_;refine ag ?_;refine aH (fun E s2=>∃ i : Nat,i≤2 ^ 61∧a≤i∧dH Q (iS t - i) i = dH Q (iS t - a) a∧E 7 = .v (.int .i64 i)∧E 0 = .sl 5 t.length X .any∧E 1 = .sl 1 name.length (name.map aw) .any∧s2 = s)
  (fun E _=>match E 7 with | .v (.int _ i)=>iS t - i.toNat | _=>0) ?_ ?_
 ·exact ⟨a,by omega,Nat.le_refl _,rfl,rfl,rfl,rfl,rfl⟩
 ·rintro E1 s2 ⟨i,hi,hai,hf,g7,g0,g1,rfl⟩ -
  refine wK fun K2 aX=>?_;by_cases aO : i < iS t
  ·have ik : 2 * i < t.length:=Ab.1 aO;refine jB (Ai @g7 (Ai @g0 (Ai (bw i (by omega)) (Ai @af (decide_eq_true ik))))) ?_;refine jE ?_;refine ad ?_;refine aX _ _ ?_;clear aX K2;refine wK fun K3 bB=>?_;refine ag ?_;obtain ⟨k,hk⟩ : ∃ k,iS t - i = k + 1:=⟨iS t - i - 1,by omega⟩;have ll : iS t - (i + 1) = k:=(by omega);rw [hk] at hf;have CD : Q i = decide (bx t i∧(nd t (2 * i)).name = name):=(by rw [hQ]);have bO : ∀ (E : Env),Q i = false→E 7 = .v (.int .i64 i)→E 0 = .sl 5 t.length X .any→E 1 = .sl 1 name.length (name.map aw) .any→K3 E s2:=by
    intro E hq f7 f0 f1;refine bB _ _ ?_;clear bB K3;refine jD (Ai @f7 (aQ i (by omega))) ?_;refine ⟨⟨i + 1,by omega,by omega,by rw [ll,← hf,nK hq],rfl,f0,f1,rfl⟩,?_⟩;simp only [g7,aG,↓reduceIte];omega
   clear bB;have gq:=bN (2 * i) ik;generalize nd t (2 * i) = N at *
   obtain ⟨nk,nm,ny,iq,nu⟩:=N;unfold aa.cells at gq;simp only at CD;have bK : (0 : Int)≤((2 * i : Nat) : Int):=(by omega);refine jS (Ai @g0 @g7) fun K hK=>?_;refine ae (hm _ _) ?_;rintro r s3 ⟨rfl,rfl⟩;by_cases hp : bx t (i : Int)
   ·rw [decide_eq_true hp];refine jN (Ai @g0 (Ai @g7 (Ai @g1 (Ai (bw i (by omega)) (Ai @af (Ai @ik (Ai @bK @gq))))))) ?_;refine ae (de nm name _) ?_;rintro r s4 ⟨rfl,rfl⟩;by_cases hn : nm = name
    ·rw [decide_eq_true hn];rw [decide_eq_true ⟨hp,hn⟩] at CD;refine jR hK ?_;clear hK K;refine jE ?_;refine jB @g7 ?_;refine jI ?_;rw [bR,← hf,nL CD];exact jW ⟨rfl,rfl⟩
    ·rw [decide_eq_false hn];rw [decide_eq_false (fun q=>hn q.2)] at CD;refine jR hK ?_;clear hK K;refine jF ?_;refine ad ?_;exact bO _ CD g7 g0 g1
   ·rw [decide_eq_false hp];rw [decide_eq_false (fun q=>hp q.1)] at CD;refine jR hK ?_;clear hK K;refine jF ?_;refine ad ?_;exact bO _ CD g7 g0 g1
  ·have ik : ¬ 2 * i < t.length:=fun h=>aO (Ab.2 h);refine jB (Ai @g7 (Ai @g0 (Ai (bw i (by omega)) (Ai @af (decide_eq_false ik))))) ?_;refine jF ?_;refine aB ?_;simp only [av,aq,if_true];refine hK _ _ ?_;clear hK aX K2 K;rw [show iS t - i = 0 by omega] at hf;refine jA ?_;refine jI ?_;rw [bR,← hf];exact jW ⟨rfl,rfl⟩
theorem yg (l : List Int) (hl : l.length≤2 ^ 61) (k : FuncId) (hk : ai prog k = true) (dm : List AV) (P : Int→Bool)
  (hP : ∀ x ∈ l,∀ s,ah prog Γ k (.v (.int .i64 x) :: dm) s (fun r s'=>r = .v (.bool (P x))∧s' = s)) (s : AS) :
  ah prog Γ 215 [aC l .any,.tN k dm] s (fun r s'=>r = .v (.int .i64 (dH (fun i=>P (l.getD i 0)) l.length 0))∧s' = s):=by
 refine ab func215 rfl ntmps215 results215 (by simp) ?_;obtain ⟨Q,hQ⟩ : ∃ Q : Nat→Bool,Q = fun i=>P (l.getD i 0):=⟨_,rfl⟩;rw [← hQ];unfold aC;refine jA ?_;refine wK fun K hK=>?_;refine jA ?_;refine ag ?_;refine aH (fun E s2=>∃ i : Nat,i≤l.length∧dH Q (l.length - i) i = dH Q l.length 0∧E 8 = .v (.int .i64 i)∧E 7 = .v (.int .i64 l.length)∧E 0 = .sl 1 l.length (l.map aE) .any∧E 1 = .tN k dm∧s2 = s)
  (fun E _=>match E 8 with | .v (.int _ i)=>l.length - i.toNat | _=>0) ?_ ?_
 ·exact ⟨0,Nat.zero_le _,rfl,rfl,rfl,rfl,rfl,rfl⟩
 ·rintro E1 s2 ⟨i,hi,hf,g8,g7,g0,g1,rfl⟩ -
  by_cases aO : i < l.length
  ·refine jB (Ai @g8 (Ai @g7 (Ai @af (decide_eq_true aO)))) ?_;refine wK fun K2 aX=>?_;refine jE ?_;refine ad ?_;refine aX _ _ ?_;clear aX K2;refine wK fun K3 bB=>?_;refine ag ?_;have CD : Q i = P l[i]:=(by rw [hQ]; simp [List.getD,aO]);have hc:=hP l[i] (List.getElem_mem aO) s2;rw [← CD] at hc;obtain ⟨k',oB⟩ : ∃ k',l.length - i = k' + 1:=⟨l.length - i - 1,by omega⟩;have m9 : l.length - (i + 1) = k':=(by omega);rw [oB] at hf;have bN:=dC aO;have bK : (0 : Int)≤(i : Int):=(by omega);refine jB @g8 ?_;refine jS (Ai @g1 (Ai @g0 (Ai @af (Ai @aO (Ai @bK @bN))))) fun K hK=>?_;refine ⟨hk,?_⟩;refine ae hc ?_;rintro r s3 ⟨rfl,rfl⟩;cases hq : Q i with
   | true =>
    refine jR hK ?_;clear hK K;refine jE ?_;refine jA ?_;refine jI ?_;rw [← hf,nL hq];exact jW ⟨rfl,rfl⟩
   | false =>
    refine jR hK ?_;clear hK K;refine jF ?_;refine ad ?_;simp only [aq,av,if_true,if_false];refine bB _ _ ?_;clear bB K3;refine jD (Ai @g8 (aQ i (by omega))) ?_;refine ⟨⟨i + 1,by omega,by rw [m9,← hf,nK hq],rfl,g7,g0,g1,rfl⟩,?_⟩;simp only [g8,aG,↓reduceIte];omega
  ·refine jB (Ai @g8 (Ai @g7 (Ai @af (decide_eq_false aO)))) ?_;refine wK fun K2 aX=>?_;refine jF ?_;refine aB ?_;simp only [av,aq,if_true];refine hK _ _ ?_;clear hK aX K2 K;rw [show l.length - i = 0 by omega] at hf;refine jA ?_;refine jI ?_;rw [← hf];exact jW ⟨rfl,rfl⟩
theorem tC (l : List Int) (hl : l.length≤2 ^ 61) (k : FuncId) (hk : ai prog k = true) (dm : List AV) (P : Int→Bool)
  (hP : ∀ x ∈ l,∀ s,ah prog Γ k (.v (.int .i64 x) :: dm) s (fun r s'=>r = .v (.bool (P x))∧s' = s)) (s : AS) :
  ah prog Γ 175 [aC l .any,.tN k dm] s (fun r s'=>r = .v (.bool (l.any P))∧s' = s):=by
 refine ab func175 rfl ntmps175 results175 (by simp) ?_;have hc:=fun s=>yg (Γ:=Γ) l hl k hk dm P hP s;have ha:=Ac P l;generalize dH (fun i=>P (l.getD i 0)) l.length 0 = n at *
 refine jA ?_;refine jK (hc _) ?_;rintro s1 rfl;refine jI ?_;rw [← ha];exact jW ⟨rfl,rfl⟩
theorem FW : ai prog 174 = true:=by kernel_rfl
def mM (t : List aa) (a b : Int) (u : Int) : Bool:=decide (u < a) || (decide (b < u) || !decide (bx t u))
theorem BF (t : List aa) (ht : t.length≤2 ^ 61) (a b u : Int) (s : AS) : ah prog Γ 174 [.v (.int .i64 u),.cX [.v (.int .i64 a)],.cX [.v (.int .i64 b)],.cX [ax t]] s (fun r s'=>r = .v (.bool (mM t a b u))∧s' = s):=by
 refine ab func174 rfl ntmps174 results174 (by simp) ?_;have hm:=fun i s=>eu (Γ:=Γ) t ht i s;unfold ax at hm ⊢;generalize au aa.cells t = X at *
 unfold mM;refine jA ?_;by_cases h1 : u < a
 ·have hr : (decide (u < a) || (decide (b < u) || !decide (bx t u))) = true:=(by rw [decide_eq_true h1]; rfl);refine jB (decide_eq_true h1) ?_;refine jI ?_;rw [hr];exact jW ⟨rfl,rfl⟩
 ·by_cases h2 : b < u
  ·have hr : (decide (u < a) || (decide (b < u) || !decide (bx t u))) = true:=(by rw [decide_eq_true h2,decide_eq_false h1]; rfl);refine jB (Ai (decide_eq_false h1) (decide_eq_true h2)) ?_;refine jI ?_;rw [hr];exact jW ⟨rfl,rfl⟩
  ·have hr : (decide (u < a) || (decide (b < u) || !decide (bx t u))) = !decide (bx t u):=(by rw [decide_eq_false h2,decide_eq_false h1]; rfl);refine jS (Ai (decide_eq_false h1) (decide_eq_false h2)) fun K hK=>?_;refine ae (hm _ _) ?_;rintro r s1 ⟨rfl,rfl⟩;refine jR hK ?_;clear hK K;refine jI ?_;rw [hr];exact jW ⟨rfl,rfl⟩
theorem DW (hG : Γ 3 = eW.map nj) (t : List aa) (ht : cV t) (i : Nat) (hi : i < t.length) (s : AS) : ah prog Γ 114 [ax t,.v (.int .i64 i)] s (fun r s'=>r = .v (.bool (decide (qY t i)))∧s' = s):=by
 refine ab func114 rfl ntmps114 results114 (by simp) ?_;have hun:=fun s=>sI (Γ:=Γ) hG (i : Int) s;obtain ⟨a,ha⟩ : ∃ a,a = (kY (i : Int)).1:=⟨_,rfl⟩;obtain ⟨b,hb⟩ : ∃ b,b = (kY (i : Int)).2:=⟨_,rfl⟩;rw [← ha,← hb] at hun;have ye:=fun u s=>BF (Γ:=Γ) t ht.1 a b u s;have bN:=cT hi;have hN:=ht.nd i;have ei : qY t i↔(nd t i).right∧((nd t i).kind = 0∨((nd t i).kind = 1↔i % 2 = 0))∧((nd t i).fF.any (mM t a b)) = false:=by
  unfold qY;rw [← ha,← hb];simp only [List.any_eq_false,mM,Bool.or_eq_true,decide_eq_true_eq,Bool.not_eq_true',decide_eq_false_iff_not,not_or,Int.not_lt,Decidable.not_not]
 have FV:=fun s=>dY (Γ:=Γ) (nd t i) hN.1 s;have Uy:=fun s=>tC (Γ:=Γ) (nd t i).fF hN.1 _ FW [.cX [.v (.int .i64 a)],.cX [.v (.int .i64 b)],.cX [ax t]] (mM t a b) (fun x _ s=>ye x s) s;have H6 : decide (qY t i) = (decide (nd t i).right && (((nd t i).kind == 0 || (((nd t i).kind == 1) == (i % 2 == 0))) && !((nd t i).fF.any (mM t a b)))):=by
  rw [Bool.eq_iff_iff,decide_eq_true_iff,ei];simp only [Bool.and_eq_true,decide_eq_true_eq,Bool.or_eq_true,beq_iff_eq,Bool.not_eq_true',Bool.beq_eq_decide_eq];constructor
  ·rintro ⟨x,y,z⟩;exact ⟨x,y.imp id (fun q=>by rw [Bool.eq_iff_iff,decide_eq_true_iff,decide_eq_true_iff]; exact q),z⟩
  ·rintro ⟨x,y,z⟩;exact ⟨x,y.imp id (fun q=>by rw [Bool.eq_iff_iff,decide_eq_true_iff,decide_eq_true_iff] at q; exact q),z⟩
 clear ei;generalize List.any (nd t i).fF (mM t a b) = F at *
 unfold ax at Uy ⊢;generalize au aa.cells t = X at *
 clear ye;generalize decide (qY t i) = PM at *
 generalize decide (nd t i).right = RT at *
 generalize nd t i = N at *
 obtain ⟨nk,nm,ny,iq,nu⟩:=N;unfold aa.cells at bN FV;simp only at H6 Uy;unfold aC at Uy bN FV;have bK : (0 : Int)≤(i : Int):=(by omega);have aO : i < t.length:=hi;refine az 2 (by decide) ?_;intro K hK;refine jM ?_;intro o1 h1;refine hK _ _ o1 _ rfl h1 ?_;clear hK K h1;refine az 5 (by decide) ?_;intro K hK;refine jN (Ai @af (Ai @aO (Ai @bK @bN))) ?_;intro o1 h1;refine hK _ _ o1 _ rfl h1 ?_;clear hK K h1;refine bY 6 7 (by decide) (by decide) (by decide) ?_;intro K hK;refine jM ?_;refine ae (hun _) ?_;rintro r s1 ⟨rfl,rfl⟩;refine jM ?_;intro o1 xe o2 BX;have dz : o1≠o2:=(by rintro rfl; simp at BX);have vG:=dz.symm;simp only [dz,vG,if_true,if_false,↓reduceIte,List.set_cons_zero,List.set_cons_succ,List.length_cons,List.length_nil,Nat.reduceAdd,Nat.le_refl,true_and];rw [Fj dz];refine hK _ _ o1 o2 _ _ rfl rfl xe (by rw [AS.aR _ vG]; simpa [vG] using BX) ?_;clear hK K xe BX dz vG;refine jA ?_;have qz : m8 (i : Int) 2 = ((i % 2 : Nat) : Int):=vK i 2;have bb : ((true == true) = true∧(false == false) = true)∧((true == false) = false∧(false == true) = false):=⟨⟨rfl,rfl⟩,rfl,rfl⟩;cases RT with
 | false =>
  refine jK (FV _) ?_;rintro s2 rfl;refine jI ?_;rw [H6];exact jW ⟨rfl,rfl⟩
 | true =>
  by_cases k0 : nk = 0
  ·have t0:=gB k0;refine jQ fun K hK=>?_;refine ae (FV _) ?_;rintro r s2 ⟨rfl,rfl⟩;refine jN @t0 ?_;refine ae (Uy _) ?_;rintro r s3 ⟨rfl,rfl⟩;refine jR hK ?_;clear hK K;refine jI ?_;have MU : (true && ((nk == 0 || ((nk == 1) == (i % 2 == 0))) && !F)) = !F:=(by rw [t0]; cases F <;> rfl);rw [H6,MU];exact jW ⟨rfl,rfl⟩
  ·have t0:=e8 k0;by_cases k1 : nk = 1
   ·have t1:=gB k1;by_cases kp : i % 2 = 0
    ·have t2 : (m8 (i : Int) 2 == 0) = true:=(by rw [qz]; exact gB (by omega));have t3 : (i % 2 == 0) = true:=(by simpa using kp);have MU : (true && ((nk == 0 || ((nk == 1) == (i % 2 == 0))) && !F)) = !F:=(by rw [t0,t1,t3]; cases F <;> rfl);refine jQ fun K hK=>?_;refine ae (FV _) ?_;rintro r s2 ⟨rfl,rfl⟩;simp only [↓DM,cw,DX,Nz,↓DN,Qa,Qb,Qc,Qd,Qe,Qf,Qg,Qh,reduceCtorEq,↓reduceIte,Na,Nb,Nc,Nk,Nf,Ng,Nh,Za,Zb,Zc,TT,t0,t1,lG,t2,bb];refine ae (Uy _) ?_;rintro r s3 ⟨rfl,rfl⟩;refine jR hK ?_;clear hK K;refine jI ?_;rw [H6,MU];exact jW ⟨rfl,rfl⟩
    ·have t2 : (m8 (i : Int) 2 == 0) = false:=(by rw [qz]; exact e8 (by omega));have t3 : (i % 2 == 0) = false:=(by simpa using kp);have MU : (true && ((nk == 0 || ((nk == 1) == (i % 2 == 0))) && !F)) = false:=(by rw [t0,t1,t3]; cases F <;> rfl);refine jQ fun K hK=>?_;refine ae (FV _) ?_;rintro r s2 ⟨rfl,rfl⟩;simp only [↓DM,cw,DX,Nz,↓DN,Qa,Qb,Qc,Qd,Qe,Qf,Qg,Qh,reduceCtorEq,↓reduceIte,Na,Nb,Nc,Nk,Nf,Ng,Nh,Za,Zb,Zc,TT,t0,t1,lG,t2,bb];refine hK _ _ ?_;clear hK K;refine jI ?_;rw [H6,MU];exact jW ⟨rfl,rfl⟩
   ·have t1:=e8 k1;by_cases kp : i % 2 = 0
    ·have t2 : (m8 (i : Int) 2 == 0) = true:=(by rw [qz]; exact gB (by omega));have t3 : (i % 2 == 0) = true:=(by simpa using kp);have MU : (true && ((nk == 0 || ((nk == 1) == (i % 2 == 0))) && !F)) = false:=(by rw [t0,t1,t3]; cases F <;> rfl);refine jQ fun K hK=>?_;refine ae (FV _) ?_;rintro r s2 ⟨rfl,rfl⟩;simp only [↓DM,cw,DX,Nz,↓DN,Qa,Qb,Qc,Qd,Qe,Qf,Qg,Qh,reduceCtorEq,↓reduceIte,Na,Nb,Nc,Nk,Nf,Ng,Nh,Za,Zb,Zc,TT,t0,t1,lG,t2,bb];refine hK _ _ ?_;clear hK K;refine jI ?_;rw [H6,MU];exact jW ⟨rfl,rfl⟩
    ·have t2 : (m8 (i : Int) 2 == 0) = false:=(by rw [qz]; exact e8 (by omega));have t3 : (i % 2 == 0) = false:=(by simpa using kp);have MU : (true && ((nk == 0 || ((nk == 1) == (i % 2 == 0))) && !F)) = !F:=(by rw [t0,t1,t3]; cases F <;> rfl);refine jQ fun K hK=>?_;refine ae (FV _) ?_;rintro r s2 ⟨rfl,rfl⟩;simp only [↓DM,cw,DX,Nz,↓DN,Qa,Qb,Qc,Qd,Qe,Qf,Qg,Qh,reduceCtorEq,↓reduceIte,Na,Nb,Nc,Nk,Nf,Ng,Nh,Za,Zb,Zc,TT,t0,t1,lG,t2,bb];refine ae (Uy _) ?_;rintro r s3 ⟨rfl,rfl⟩;refine jR hK ?_;clear hK K;refine jI ?_;rw [H6,MU];exact jW ⟨rfl,rfl⟩
theorem pJ {t : List aa} {name : List UInt8} {a : Nat} : decide (0≤fa t name (a + 1)) = false↔∀ j,j < iS t→a < j→¬ (bx t (j : Int)∧(nd t (2 * j)).name = name):=by
 have h:=rK (fun (j : Nat)=>decide (bx t (j : Int)∧(nd t (2 * j)).name = name)) (iS t - (a + 1)) (a + 1);constructor
 ·intro h1 j h2 h3 h4;have : decide (0≤fa t name (a + 1)) = true:=h.2 ⟨j,by omega,by omega,decide_eq_true h4⟩;rw [h1] at this;cases this
 ·intro h1;cases hd : decide (0≤fa t name (a + 1)) with
  | false=>rfl
  | true =>
   obtain ⟨j,h2,h3,h4⟩:=h.1 hd;exact absurd (of_decide_eq_true h4) (h1 j (by omega) (by omega))
theorem cW (hG : Γ 3 = eW.map nj) (t : List aa) (ht : cV t) (s : AS) : ah prog Γ 45 [ax t] s (fun r s'=>r = .v (.bool (decide (aA t)))∧s' = s):=by
 refine ab func45 rfl ntmps45 results45 (by simp) ?_;have tT:=ht.1;have lN:=fun s=>eY (Γ:=Γ) t tT s;have hmc:=fun i s=>eu (Γ:=Γ) t tT i s;have UK:=fun i (h : i < t.length) s=>DW (Γ:=Γ) hG t ht i h s;have xb:=fun name a (h : a≤2 ^ 60) s=>og (Γ:=Γ) t tT name a h s;have Lg:=fun a k h s=>kv (Γ:=Γ) t tT a k h s;have bN:=fun i (h : i < t.length)=>cT (t:=t) h;have qF:=fL t;have MV : aY t≠0→t.length = 2 * aY t - 1:=fun h=>(dx.resolve_left h).2;have PN : aY t = 0→decide (aA t) = false:=fun h=>decide_eq_false fun k=>k.1 h;have PO : ∀ i,i < t.length→¬ ij t i→decide (aA t) = false:=fun i h1 h2=>decide_eq_false fun k=>h2 (k.2.1 i h1);have gC : aY t≠0→(∀ i,i < t.length→ij t i)→decide (aA t) = (((aY t : Int) == 1) || decide ((0 : Int) < (dF (bx t) (aY t / 2) (aY t - aY t / 2) : Int))):=by
  intro h1 h2;rw [Bool.eq_iff_iff,decide_eq_true_iff,Bool.or_eq_true,beq_iff_eq,decide_eq_true_iff];constructor
  ·rintro ⟨_,_,h3⟩;exact h3.imp (fun q=>by omega) (fun q=>by omega)
  ·intro h3;exact ⟨h1,h2,h3.imp (fun q=>by omega) (fun q=>by omega)⟩
 unfold ax at *
 generalize au aa.cells t = X at *
 generalize decide (aA t) = PM at *
 refine jA ?_;refine jK (lN _) ?_;rintro s1 rfl;refine wK fun K hK=>?_;refine jA ?_;refine ag ?_;refine aH (fun E s2=>∃ i : Nat,i≤t.length∧(0 < i→aY t≠0)∧(∀ j,j < i→ij t j)∧E 9 = .v (.int .i64 i)∧E 8 = .v (.int .i64 t.length)∧E 3 = .v (.int .i64 (aY t))∧E 0 = .sl 5 t.length X .any∧s2 = s1)
  (fun E _=>match E 9 with | .v (.int _ i)=>t.length - i.toNat | _=>0) ?_ ?_
 ·exact ⟨0,Nat.zero_le _,fun h=>absurd h (Nat.lt_irrefl _),fun j h=>absurd h (Nat.not_lt_zero _),rfl,rfl,rfl,rfl,rfl⟩
 ·rintro E1 s2 ⟨i,hi,Ua,bT,g9,g8,g3,g0,rfl⟩ -
  by_cases aO : i < t.length
  ·refine jB (Ai @g9 (Ai @g8 (Ai @af (decide_eq_true aO)))) ?_;refine wK fun K2 aX=>?_;refine jE ?_;refine ad ?_;refine aX _ _ ?_;clear aX K2;refine wK fun K3 bB=>?_;refine ag ?_;refine jB @g9 ?_;by_cases hz : aY t = 0
   ·refine jB (Ai @g3 (Dq hz)) ?_;refine jE ?_;refine jA ?_;refine jI ?_;rw [PN hz];exact jW ⟨rfl,rfl⟩
   ·have fX : ij t i↔qY t i∧(i % 2 = 0→bx t ((i / 2 : Nat) : Int)→decide (0≤fa t (nd t i).name (i / 2 + 1)) = false):=by
     unfold ij;rw [pJ]
    have hlen:=MV hz;have gq:=bN i aO;have YZ:=fun s=>xb (nd t i).name (i / 2 + 1) (by omega) s;generalize hNI : fa t (nd t i).name (i / 2 + 1) = NI at *
    generalize nd t i = N at *
    obtain ⟨nk,nm,ny,iq,nu⟩:=N;unfold aa.cells at gq;simp only at YZ;have bK : (0 : Int)≤(i : Int):=(by omega);have qz : m8 (i : Int) 2 = ((i % 2 : Nat) : Int):=vK i 2;have Pt : ou .i64 (i : Int) 2 = ((i / 2 : Nat) : Int):=dR i (by omega);have hq3 : jn .i64 ((i / 2 : Nat) : Int) 1 = ((i / 2 + 1 : Nat) : Int):=aQ _ (by omega);have bO : ij t i→∀ (E : Env),E 9 = .v (.int .i64 i)→E 8 = .v (.int .i64 t.length)→E 3 = .v (.int .i64 (aY t))→E 0 = .sl 5 t.length X .any→K3 E s2:=by
     intro hg E f9 f8 f3 f0;refine bB _ _ ?_;clear bB K3;refine jD (Ai @f9 (aQ i (by omega))) ?_;refine ⟨⟨i + 1,by omega,fun _=>hz,?_,rfl,f8,f3,f0,rfl⟩,?_⟩
     ·intro j hj;by_cases e : j = i
      ·rw [e]; exact hg
      ·exact bT j (by omega)
     ·simp only [g9,aG,↓reduceIte];omega
    clear bB;refine jS (Ai @g3 (Ai (uI hz) @g0)) fun K hK=>?_;refine ae (UK i aO _) ?_;rintro r s3 ⟨rfl,rfl⟩;by_cases hf : qY t i
    ·rw [decide_eq_true hf];by_cases hp : i % 2 = 0
     ·have t2 : (m8 (i : Int) 2 == 0) = true:=(by rw [qz]; exact gB (by omega));simp only [↓DM,cw,DX,Nz,↓DN,Qa,Qb,Qc,Qd,Qe,Qf,Qg,Qh,reduceCtorEq,↓reduceIte,Na,Nb,Nc,Nk,Nf,Ng,Nh,Za,Zb,Zc,TT,lG,t2,g0,Pt];refine ae (hmc _ _) ?_;rintro r s4 ⟨rfl,rfl⟩;by_cases hm : bx t ((i / 2 : Nat) : Int)
      ·rw [decide_eq_true hm];refine jN (Ai @lG (Ai @g0 (Ai @af (Ai @aO (Ai @bK (Ai @gq (Ai @Pt @hq3))))))) ?_;refine ae (YZ _) ?_;rintro r s5 ⟨rfl,rfl⟩;by_cases hn : 0≤NI
       ·have dV : ¬ ij t i:=fun k=>by
         have:=(fX.1 k).2 hp hm;exact absurd hn (of_decide_eq_false this)
        refine jV (decide_eq_true hn) hK ?_;clear hK K;refine jE ?_;refine jA ?_;refine jI ?_;rw [PO i aO dV];exact jW ⟨rfl,rfl⟩
       ·have hg : ij t i:=fX.2 ⟨hf,fun _ _=>decide_eq_false hn⟩;refine jV (decide_eq_false hn) hK ?_;clear hK K;refine jF ?_;refine ad ?_;simp only [aq,av,if_true,if_false];exact bO hg _ g9 g8 g3 g0
      ·have hg : ij t i:=fX.2 ⟨hf,fun _ k=>absurd k hm⟩;rw [decide_eq_false hm];refine jR hK ?_;clear hK K;refine jF ?_;refine ad ?_;simp only [aq,av,if_true,if_false];exact bO hg _ g9 g8 g3 g0
     ·have t2 : (m8 (i : Int) 2 == 0) = false:=(by rw [qz]; exact e8 (by omega));have hg : ij t i:=fX.2 ⟨hf,fun k=>absurd k hp⟩;simp only [↓DM,cw,DX,Nz,↓DN,Qa,Qb,Qc,Qd,Qe,Qf,Qg,Qh,reduceCtorEq,↓reduceIte,Na,Nb,Nc,Nk,Nf,Ng,Nh,Za,Zb,Zc,TT,lG,t2];refine hK _ _ ?_;clear hK K;refine jF ?_;refine ad ?_;simp only [aq,av,if_true,if_false];exact bO hg _ g9 g8 g3 g0
    ·have dV : ¬ ij t i:=fun k=>hf k.1;rw [decide_eq_false hf];refine jR hK ?_;clear hK K;refine jE ?_;refine jA ?_;refine jI ?_;rw [PO i aO dV];exact jW ⟨rfl,rfl⟩
  ·refine jB (Ai @g9 (Ai @g8 (Ai @af (decide_eq_false aO)))) ?_;refine wK fun K2 aX=>?_;refine jF ?_;refine aB ?_;simp only [av,aq,if_true];refine hK _ _ ?_;clear hK aX K2 K;have MW : ∀ j,j < t.length→ij t j:=fun j h=>bT j (by omega);by_cases hz : aY t = 0
   ·have hp : decide ((0 : Int) < ((aY t : Nat) : Int)) = false:=decide_eq_false (by omega);refine jB (Ai @g3 (Ai (e8 (show ¬ ((aY t : Nat) : Int) = 1 by omega)) @hp)) ?_;refine jI ?_;rw [PN hz];exact jW ⟨rfl,rfl⟩
   ·have hp : decide ((0 : Int) < ((aY t : Nat) : Int)) = true:=decide_eq_true (by omega);have bR:=gC hz MW;by_cases h1 : aY t = 1
    ·have e1:=gB (show ((aY t : Nat) : Int) = 1 by omega);rw [e1] at bR;refine jB (Ai @g3 @e1) ?_;refine jI ?_;rw [bR];exact jW ⟨rfl,rfl⟩
    ·have e1:=e8 (show ¬ ((aY t : Nat) : Int) = 1 by omega);rw [e1,Bool.false_or] at bR;have e2 : ou .i64 (aY t : Int) 2 = ((aY t / 2 : Nat) : Int):=dR _ (by omega);have e3 : ed .i64 (aY t : Int) 1 = (((aY t / 2 + (aY t - aY t / 2) : Nat)) : Int) - 1:=(by rw [b6 (by omega)]; omega);have hcm:=fun s=>Lg (aY t / 2) (aY t - aY t / 2) (by omega) s;generalize (((aY t / 2 + (aY t - aY t / 2) : Nat)) : Int) - 1 = LL at *
     refine jS (Ai @g3 (Ai @e1 (Ai @hp (Ai @lG (Ai @e2 (Ai @e3 @g0)))))) fun K hK=>?_;refine ae (hcm _) ?_;rintro r s3 ⟨rfl,rfl⟩;refine jR hK ?_;clear hK K;refine jI ?_;rw [bR];exact jW ⟨rfl,rfl⟩
end Go.Proofs.YtcjifoccjlpapaaGreatDoor
namespace Go.AM
open Go
theorem jg {t : List aa} {n : Nat} (h : Fit n) (hl : t.length = 2 * n - 1) : aY t = n:=by
  have:=h.le;unfold aY;rw [show (t.length + 1) / 2 = n by omega];exact if_pos ⟨h,hl⟩
theorem MX {t : List aa} (h : ∀ n,Fit n→t.length≠2 * n - 1) : aY t = 0:=by
  unfold aY;rw [if_neg];rintro ⟨a,b⟩;exact h _ a b
theorem DY {j : Nat} (h : j≤5) : Fit (2 ^ j):=(by decide : ∀ j≤5,Fit (2 ^ j)) j h
def vh (t : List aa) (i : Nat) : Prop :=
  (nd t i).right∧((nd t i).kind = 0∨((nd t i).kind = 1↔i % 2 = 0))∧((nd t i).kind = 1→mL t (nd t i).name = ((i / 2 : Nat) : Int))∧∀ u ∈ (nd t i).fF,(kY (i : Int)).1≤u∧u≤(kY (i : Int)).2∧c7 t u
theorem nM {t : List aa} (name : List UInt8) : (∃ j,j < iS t∧c7 t (j : Int)∧(nd t (2 * j)).name = name∧mL t name = (j : Int)∧∀ m,m < j→¬ (c7 t (m : Int)∧(nd t (2 * m)).name = name))∨(mL t name = -1∧∀ j,j < iS t→¬ (c7 t (j : Int)∧(nd t (2 * j)).name = name)):=by
  rcases qX (fun (j : Nat)=>decide (c7 t (j : Int)∧(nd t (2 * j)).name = name)) (iS t) 0 with ⟨h1,h2⟩ | ⟨j,h1,h2,h3,h4,h5⟩
  · exact .inr ⟨h1,fun j hj=>of_decide_eq_false (h2 j (Nat.zero_le _) (by omega))⟩
  · obtain ⟨h6,h7⟩:=of_decide_eq_true h3;exact .inl ⟨j,by omega,h6,h7,h4,fun m hm=>of_decide_eq_false (h5 m (Nat.zero_le _) hm)⟩
theorem FX {t : List aa} (h0 : aY t≠0) : (∀ i,i < t.length→vh t i)↔(∀ i,i < t.length→ij t i):=by
  have hlen : t.length = 2 * aY t - 1:=(dx.resolve_left h0).2;have hm:=fq (t:=t) h0;have ei : ∀ i,vh t i→qY t i:=fun i ⟨a,b,_,d⟩=>⟨a,b,fun u hu=>⟨(d u hu).1,(d u hu).2.1,(hm u).1 (d u hu).2.2⟩⟩;constructor
  · intro h i hi;refine ⟨ei i (h i hi),fun he GI j hj Y0 ⟨hmj,hnj⟩=>?_⟩;have h2j : 2 * j < t.length:=Ab.1 hj;have Pj:=(h (2 * j) h2j).2.2.1 (by have:=hmj.2.2; rwa [Int.toNat_natCast] at this);rw [show 2 * j / 2 = j by omega] at Pj;rcases nM (t:=t) (nd t (2 * j)).name with ⟨k,_,_,_,h4,h5⟩ | ⟨h4,_⟩
    · rw [Pj] at h4;refine h5 (i / 2) (by omega) ⟨(hm _).2 GI,?_⟩;rw [show 2 * (i / 2) = i by omega,hnj]
    · rw [Pj] at h4;omega
  · intro h i hi;obtain ⟨⟨a,b,c⟩,_⟩:=h i hi;refine ⟨a,b,fun hk=>?_,fun u hu=>⟨(c u hu).1,(c u hu).2.1,(hm u).2 (c u hu).2.2⟩⟩;have he : i % 2 = 0:=by
      rcases b with b | b
      · omega
      · exact b.1 hk
    have ik : 2 * (i / 2) = i:=(by omega);have GI : bx t ((i / 2 : Nat) : Int):=⟨by omega,by omega,by rw [Int.toNat_natCast,ik]; exact hk⟩;rcases nM (t:=t) (nd t i).name with ⟨k,h1,h2,h3,h4,h5⟩ | ⟨_,h5⟩
    · rw [h4];by_cases e : k = i / 2
      · rw [e]
      · exfalso;by_cases cN : k < i / 2
        · have hg:=(h (2 * k) (by omega)).2 (by omega) (by rw [show 2 * k / 2 = k by omega]; exact (hm _).1 h2) (i / 2) (by unfold iS; omega) (by omega);refine hg ⟨GI,?_⟩;rw [ik,h3]
        · exact h5 (i / 2) (by omega) ⟨(hm _).2 GI,by rw [ik]⟩
    · exact absurd ⟨(hm _).2 GI,by rw [ik]⟩ (h5 (i / 2) (by unfold iS; omega))
structure ia where
  leaf : Int
  name : List UInt8
  deriving DecidableEq
def ia.cells (x : ia) : List AV:=[.v (.int .i64 x.leaf),ak x.name .any]
def MY (l : List ia) : AV:=.sl 2 l.length (au ia.cells l) .any
def oR (t : List aa) : Nat→List ia
  | 0=>[]
  | k + 1=>oR t k ++ if bx t (k : Int) then [⟨(k : Int),(nd t (2 * k)).name⟩] else []
theorem FY (t : List aa) : ∀ k,(oR t k).length≤k
  | 0=>Nat.le_refl _
  | k + 1=>by
    have:=FY t k;simp only [oR,List.length_append];split <;> simp <;> omega
def oS (t : List aa) : List ia:=if aA t then oR t (aY t) else []
theorem aA.iS {t : List aa} (h : aA t) : iS t = aY t:=by
  have h1:=(dx.resolve_left h.1);have:=h1.1.le;unfold Go.AM.iS;omega
theorem aA.len {t : List aa} (h : aA t) : t.length = 2 * aY t - 1∧Fit (aY t):=by
  have h1:=(dx.resolve_left h.1);exact ⟨h1.2,h1.1⟩
theorem aA.nodes {t : List aa} (h : aA t) {n : aa} (hn : n ∈ t) : n.right:=by
  obtain ⟨i,hi,rfl⟩:=List.getElem_of_mem hn;have:=(h.2.1 i hi).1.1;rwa [pE hi] at this
theorem aA.nd {t : List aa} (h : aA t) (i : Nat) : (nd t i).right:=by
  by_cases hi : i < t.length
  · exact (h.2.1 i hi).1.1
  · have : Go.AM.nd t i = aa.bp:=(by simp [Go.AM.nd,List.getD,show t.length≤i by omega]);rw [this]; exact fH
def Ko (l : List aa) : List UInt8:=(l.map aa.text).flatten
def MZ (t : List aa) : List UInt8:=be 1 (aY t) ++ Ko t
open Go Go.RowKit Go.Shelf Go.Proofs
variable {P : Program} {Γ : Nat→List AV} {G : Gh} {s : AS} {w : World} {N : Nat}
def di (i : Int) : Value:=.int .i64 i
theorem al.ints {G : Gh} (l : List Int) : al G (l.map aE) (l.map di):=by
  induction l with
  | nil=>simp [al]
  | cons i l ih=>simp only [List.map_cons,al]; exact ⟨di i,_,rfl,by simp [aE,di,ar],ih⟩
theorem al.uT {G : Gh} : ∀ {l : List Int} {vs : List Value},al G (l.map aE) vs→vs = l.map di
  | [],vs,h=>by simpa [al] using h
  | i :: l,vs,h=>by
    simp only [List.map_cons,al] at h;obtain ⟨u,us,rfl,h1,h2⟩:=h;rw [al.uT h2];simp only [aE,ar] at h1;rw [h1];rfl
theorem Ad (l : List Int) : ∀ v ∈ l.map di,v.oneCell' = true:=by
  intro v hv;obtain ⟨i,_,rfl⟩:=List.mem_map.1 hv;rfl
theorem DZ (A B : List AV) (b0 x r0 : AV) (rest : List AV) : bm (bm (A ++ b0 :: B ++ r0 :: rest) (A.length + 1) (b0 :: B)) A.length [x] = A ++ x :: b0 :: B ++ rest:=by
  have h1:=eV (b0 :: B) (A ++ [b0]) (B ++ r0 :: rest) (by simp);have e1 : A ++ b0 :: B ++ r0 :: rest = (A ++ [b0]) ++ (B ++ r0 :: rest):=(by simp);rw [List.length_append,List.length_singleton] at h1;rw [e1,h1];have e2 : (B ++ r0 :: rest).drop (b0 :: B).length = rest:=by
    rw [List.length_cons,List.drop_append,List.drop_eq_nil_of_le (by omega),List.nil_append,Nat.add_sub_cancel_left];rfl
  rw [e2];have h2:=eV [x] A (b0 :: (b0 :: B) ++ rest) (by simp);have e3 : A ++ [b0] ++ b0 :: B ++ rest = A ++ (b0 :: (b0 :: B) ++ rest):=(by simp);rw [e3,h2];simp
theorem H7 {ρ : Ren} (L : Lays2.n21 P ρ) {x : AV} {u : Value} {l : List Int} {i : Nat} (at' : Int) {e : TypeId} {w0 : World} (hb : jb 1 s x l.length (l.map aE)) (hi : i≤l.length) (hn : l.length≤2 ^ 40)
    (hs : aU Γ G s (w0.alloc (.cells #[di at'] e))) (kj : ar G x u) (hold : ∀ o b,G.obj o = some b→b < w0.heap.size) :
    Calls P (ρ.f 21) #[u,.int .i64 i,.slice (some ⟨w0.heap.size,0,none⟩) 1 1] (w0.alloc (.cells #[di at'] e)) (fun e w'=>∃ G' r v s',e = .returned v∧G.le G'∧aU Γ G' s' w'∧ar G' r v ∧
      ∃ o cap rest,r = .dj o 0 1 (l.length + 1) cap∧l.length + 1≤cap∧cap < 2 ^ 63∧rest.length = cap - (l.length + 1)∧(s.aJ o = none∨∃ iI,x = .dj o 0 1 l.length iI)∧s' = s.set o ((l.take i ++ at' :: l.drop i).map aE ++ rest)):=by
  generalize hw : w0.alloc (.cells #[di at'] e) = w at *
  have vB : ∀ (j : Nat) (v : Value),([di at'] : List Value)[j]? = some v→w.cell? ⟨w0.heap.size,0 + j,none⟩ = some v:=by
    intro j v hj
    rw [← hw,World.cell?_alloc_new,Nat.zero_add]
    simpa using hj
  have Y1 : ∀ v ∈ ([di at'] : List Value),v.oneCell' = true:=Ad [at']
  have zl : ∀ k,(Builtin.zeroCells (Value.int .i64 0).cells k).toList = List.replicate k (di 0):=by
    intro k
    simp [Builtin.zeroCells,Value.cells,di,Nat.mod_one]
    rw [List.map_const',List.length_range]
  rcases hb with ⟨h0,xc,hx⟩ | ⟨o,cap,rest,rfl,ho,fM,lE,xb,jo⟩
  · obtain rfl : l = []:=List.eq_nil_of_length_eq_zero h0
    obtain rfl : i = 0:=by simpa using hi
    have core : ∀ base,Calls P (ρ.f 21) #[.slice base 0 0,.int .i64 ((0 : Nat) : Int),.slice (some ⟨w0.heap.size,0,none⟩) 1 1] w (fun e w'=>∃ G' r v s',e = .returned v∧G.le G'∧aU Γ G' s' w'∧ar G' r v ∧
      ∃ o cap rest,r = .dj o 0 1 (0 + 1) cap∧0 + 1≤cap∧cap < 2 ^ 63∧rest.length = cap - (0 + 1)∧(s.aJ o = none∨∃ iI,x = .dj o 0 1 0 iI)∧s' = s.set o ([at'].map aE ++ rest)):=by
      intro base
      refine Calls.mono (Any2.slices_Insert_int_end_grow L base 0 0 w0.heap.size 0 1 1 [] [di at'] w (by decide) (by decide) (by decide) (by decide) rfl rfl (fun _=>rfl) (by simp) vB Y1) ?_
      rintro e' w' ⟨rfl,rfl⟩
      obtain ⟨o,k1,k2,k3,k4⟩:=hs.drew.newObj (cs:=[at'].map aE ++ (List.replicate (grownCap w (0 + 1) 0 (ρ.t 3) - (0 + 1)) 0).map aE) (vs:=[at'].map di ++ (List.replicate (grownCap w (0 + 1) 0 (ρ.t 3) - (0 + 1)) 0).map di) ((al.ints _).append (al.ints _)) (ρ.t 3)
      have GY : ([] ++ [di at'] : List Value).toArray ++ Builtin.zeroCells (Value.int .i64 0).cells (grownCap w (0 + 1) 0 (ρ.t 3) - (0 + 1)) = ([at'].map di ++ (List.replicate (grownCap w (0 + 1) 0 (ρ.t 3) - (0 + 1)) (0 : Int)).map di).toArray:=by
        apply Array.ext'
        simp [zl]
      rw [GY]
      refine ⟨_,.dj o 0 1 (0 + 1) (grownCap w (0 + 1) 0 (ρ.t 3)),_,_,rfl,k2,k3,?_,o,_,_,rfl,grownCap_ge _ _ _ _,fi _ _ _ _ (by decide),by simp,.inl k1,rfl⟩
      simp only [ar]
      exact ⟨_,k4,rfl,grownCap_ge _ _ _ _⟩
    rcases hx with rfl | rfl | rfl
    · simp only [bL,ar] at kj
      subst kj
      exact core none
    · simp only [ar] at kj
      rcases kj with ⟨b,off,cap,vs,rfl,hl,_,C6,p8,nV⟩ | ⟨_,_,a,cap,rfl,ov⟩ | ⟨_,_,h,_⟩
      · simp only [eL] at nV
        subst nV
        exact core _
      · rcases ov with h | h | ⟨_,rfl⟩
        · cases h
        · cases h
        · exact core _
      · cases h
    · simp only [ar] at kj
      rcases kj with ⟨b,off,cap,vs,rfl,hl,_,C6,p8,nV⟩ | ⟨_,_,a,cap,rfl,ov⟩ | ⟨_,_,h,_⟩
      · simp only [eL] at nV
        obtain ⟨rfl,_⟩:=nV
        exact core _
      · rcases ov with h | h | ⟨h,_⟩ <;> cases h
      · cases h
  · have JJ:=kj
    simp only [ar] at kj
    obtain ⟨b,oq,rfl,_⟩:=kj
    obtain ⟨b',vs,q1,q2,q3,q4⟩:=hs.aJ o _ ho
    rw [oq] at q1
    cases q1
    have Oy:=q2.length
    have fM : (l.map aE).length = l.length:=by simp
    rw [List.length_append,fM,lE] at Oy
    have HR:=q2.take (l.map aE).length
    rw [List.take_left] at HR
    have HR:=al.uT HR
    rw [fM] at HR
    have hbw:=hold o b oq
    have Bd : ∀ (j : Nat) (v : Value),(l.map di)[j]? = some v→w.cell? ⟨b,0 + j,none⟩ = some v:=by
      intro j v hj
      rw [← HR,List.getElem?_take] at hj
      split at hj
      · rw [Nat.zero_add]; exact (q4 j v hj).1
      · cases hj
    have nV : ∀ j,j < cap→(w.cell? ⟨b,0 + j,none⟩).isSome = true:=fun j hj=>by
      rw [Nat.zero_add,(q4 j (vs[j]'(by omega)) (by simp)).1]; rfl
    have hfz : ∀ j,j < cap→w.frozen? ⟨b,0 + j,none⟩ = false:=fun j hj=>by
      rw [Nat.zero_add]; exact (q4 j (vs[j]'(by omega)) (by simp)).2.1
    have PQ : rest.length = cap - l.length:=by omega
    rcases Nat.lt_or_ge cap (l.length + 1) with mZ | CE
    · rcases Nat.lt_or_ge i l.length with KP | KP
      · -- a new row, in the middle
        refine Calls.mono (Any2.slices_Insert_int_grow L b 0 l.length cap i w0.heap.size 0 1 1 (l.map di) [di at'] w KP (by decide) xb mZ (by omega) (by simp) rfl Bd vB (Ad l) Y1) ?_
        rintro e' w' ⟨rfl,rfl⟩
        have IB:=grownCap_ge w (l.length + 1) cap (ρ.t 3)
        have Uw : grownCap w (l.length + 1) cap (ρ.t 3) < 2 ^ 63:=fi _ _ _ _ (by omega)
        generalize hgc : grownCap w (l.length + 1) cap (ρ.t 3) = gc at *
        have GY : ((l.map di).take i).toArray ++ Builtin.zeroCells (Value.int .i64 0).cells (l.length + 1 - i) ++ Builtin.zeroCells (Value.int .i64 0).cells (gc - (l.length + 1)) =
            ((l.take i).map di ++ ((List.replicate (l.length + 1 - i) (0 : Int)).map di ++ (List.replicate (gc - (l.length + 1)) (0 : Int)).map di)).toArray:=by
          apply Array.ext'
          simp [zl]
        rw [GY]
        obtain ⟨o2,k1,k2,k3,k4⟩:=hs.newObj (cs:=(l.take i).map aE ++ ((List.replicate (l.length + 1 - i) (0 : Int)).map aE ++ (List.replicate (gc - (l.length + 1)) (0 : Int)).map aE))
          (vs:=(l.take i).map di ++ ((List.replicate (l.length + 1 - i) (0 : Int)).map di ++ (List.replicate (gc - (l.length + 1)) (0 : Int)).map di)) ((al.ints _).append ((al.ints _).append (al.ints _))) (ρ.t 3)
        have yO : ((l.take i).map aE).length = i:=by simp; omega
        obtain ⟨_,_,f3⟩:=dK k3.drew (AS.aj _ _ _) k4 (off:=i) (ds:=[at'].map aE) (us:=[at'].map di) (by simp; omega) (al.ints _)
        have e1:=eV ([at'].map aE) ((l.take i).map aE) ((List.replicate (l.length + 1 - i) (0 : Int)).map aE ++ (List.replicate (gc - (l.length + 1)) (0 : Int)).map aE) (by simp; omega)
        rw [yO] at e1
        rw [e1,AS.set_set] at f3
        have xch : ((l.take i).map aE ++ [at'].map aE).length = i + 1:=by rw [List.length_append,yO]; rfl
        have Hc : ((l.drop i).map aE).length = l.length - i:=by simp
        have e2:=eV ((l.drop i).map aE) ((l.take i).map aE ++ [at'].map aE) (((List.replicate (l.length + 1 - i) (0 : Int)).map aE ++ (List.replicate (gc - (l.length + 1)) (0 : Int)).map aE).drop ([at'].map aE).length) (by simp; omega)
        rw [xch] at e2
        obtain ⟨_,_,f4⟩:=dK f3.drew (AS.aj _ _ _) k4 (off:=i + 1) (ds:=(l.drop i).map aE) (us:=(l.drop i).map di) (by simp; omega) (al.ints _)
        rw [e2,AS.set_set] at f4
        have gC : (l.take i).map aE ++ [at'].map aE ++ (l.drop i).map aE ++ ((((List.replicate (l.length + 1 - i) (0 : Int)).map aE ++ (List.replicate (gc - (l.length + 1)) (0 : Int)).map aE).drop ([at'].map aE).length).drop ((l.drop i).map aE).length) =
            (l.take i ++ at' :: l.drop i).map aE ++ (List.replicate (gc - (l.length + 1)) (0 : Int)).map aE:=by
          have hz : ((List.replicate (l.length + 1 - i) (0 : Int)).map aE).drop (1 + (l.length - i)) = []:=List.drop_eq_nil_of_le (by simp; omega)
          rw [List.drop_drop,Hc,List.length_map,List.length_singleton,List.drop_append,List.length_map,List.length_replicate,hz,List.nil_append,
            show 1 + (l.length - i) - (l.length + 1 - i) = 0 by omega,List.drop_zero]
          simp
        rw [gC] at f4
        refine ⟨_,.dj o2 0 1 (l.length + 1) gc,_,_,rfl,k2,by simpa using f4,?_,o2,gc,_,rfl,IB,Uw,by simp,.inl k1,rfl⟩
        simp only [ar]
        exact ⟨_,k4,rfl,IB⟩
      · -- a new row, at the end
        obtain rfl : i = l.length:=by omega
        refine Calls.mono (Any2.slices_Insert_int_end_grow L (some ⟨b,0,none⟩) l.length cap w0.heap.size 0 1 1 (l.map di) [di at'] w (by decide) xb mZ (by omega) (by simp) rfl (fun h=>by cases h) (fun a ha j v hj=>by cases ha; rw [cH]; exact Bd j v hj) vB Y1) ?_
        rintro e' w' ⟨rfl,rfl⟩
        have IB:=grownCap_ge w (l.length + 1) cap (ρ.t 3)
        have Uw : grownCap w (l.length + 1) cap (ρ.t 3) < 2 ^ 63:=fi _ _ _ _ (by omega)
        generalize hgc : grownCap w (l.length + 1) cap (ρ.t 3) = gc at *
        obtain ⟨o2,k1,k2,k3,k4⟩:=hs.drew.newObj (cs:=(l ++ [at']).map aE ++ (List.replicate (gc - (l.length + 1)) 0).map aE) (vs:=(l ++ [at']).map di ++ (List.replicate (gc - (l.length + 1)) 0).map di) ((al.ints _).append (al.ints _)) (ρ.t 3)
        have GY : (l.map di ++ [di at'] : List Value).toArray ++ Builtin.zeroCells (Value.int .i64 0).cells (gc - (l.length + 1)) = ((l ++ [at']).map di ++ (List.replicate (gc - (l.length + 1)) (0 : Int)).map di).toArray:=by
          apply Array.ext'
          simp [zl]
        rw [GY]
        refine ⟨_,.dj o2 0 1 (l.length + 1) gc,_,_,rfl,k2,k3,?_,o2,gc,(List.replicate (gc - (l.length + 1)) (0 : Int)).map aE,rfl,IB,Uw,by simp,.inl k1,by rw [List.take_length,List.drop_length]⟩
        simp only [ar]
        exact ⟨_,k4,rfl,IB⟩
    · obtain ⟨r0,rest',mG⟩ : ∃ r0 rest',rest = r0 :: rest':=by
        cases rest with
        | nil=>simp at PQ; omega
        | cons a r=>exact ⟨a,r,rfl⟩
      have Tm : rest'.length = cap - (l.length + 1):=by rw [mG] at PQ; simp at PQ; omega
      rcases Nat.lt_or_ge i l.length with KP | KP
      · -- in place
        obtain ⟨TB,kB,GS,hkB⟩:=Bk (q4 0 (vs[0]'(by omega)) (by simp)).1
        have hsa : w.shape? w0.heap.size = some (e,1):=by rw [← hw]; simp only [World.shape?,World.alloc,Array.getElem?_push_size]; rfl
        have Y2 : ∀ j,w.frozen? ⟨w0.heap.size,j,none⟩ = false:=fun j=>by rw [← hw]; exact World.frozen?_alloc_new _ _ _ _
        refine Calls.mono (Any2.slices_Insert_int_shift L b 0 l.length cap i w0.heap.size 0 1 1 (l.map di) [di at'] w KP (by decide) CE (by omega) (by omega) (by simp) rfl Bd (fun j hj=>nV j (by omega)) (fun j hj=>hfz j (by omega)) vB (Ad l) Y1 e TB 1 kB hsa GS hkB (Y2 0) (Y2 1)) ?_
        rintro e' w' ⟨rfl,rfl⟩
        obtain ⟨_,_,f3⟩:=dK hs.drew ho oq (off:=0 + (i + 1)) (ds:=(l.drop i).map aE) (us:=(l.drop i).map di) (by simp; omega) (al.ints _)
        obtain ⟨_,_,f4⟩:=dK f3 (AS.aj _ _ _) oq (off:=0 + i) (ds:=[at'].map aE) (us:=[at'].map di) (by rw [lY]; simp; omega) (al.ints _)
        rw [AS.set_set] at f4
        have I7 : l.drop i = l[i] :: l.drop (i + 1):=List.drop_eq_getElem_cons KP
        have gC : bm (bm (l.map aE ++ rest) (0 + (i + 1)) ((l.drop i).map aE)) (0 + i) ([at'].map aE) = (l.take i ++ at' :: l.drop i).map aE ++ rest':=by
          have h:=DZ ((l.take i).map aE) ((l.drop (i + 1)).map aE) (aE l[i]) (aE at') r0 rest'
          have yO : ((l.take i).map aE).length = i:=by simp; omega
          rw [yO] at h
          rw [Nat.zero_add,Nat.zero_add,I7,List.map_append,List.map_cons,List.map_cons,mG]
          have hl : l.map aE = (l.take i).map aE ++ aE l[i] :: (l.drop (i + 1)).map aE:=by
            rw [← List.map_cons,← I7,← List.map_append,List.take_append_drop]
          rw [hl]
          rw [List.map_cons,List.map_nil,h,List.map_cons]
        rw [gC] at f4
        refine ⟨G,.dj o 0 1 (l.length + 1) cap,_,_,rfl,.refl G,by simpa using f4,?_,o,cap,rest',rfl,CE,jo,Tm,.inr ⟨cap,rfl⟩,rfl⟩
        simp only [ar]
        exact ⟨_,oq,rfl,CE⟩
      · obtain rfl : i = l.length:=by omega
        refine Calls.mono (Any2.slices_Insert_int_end_room L b 0 l.length cap w0.heap.size 0 1 1 [di at'] w (by decide) CE (by omega) rfl (fun j hj=>by rw [Nat.add_assoc]; exact nV _ (by omega)) (fun j hj=>by rw [Nat.add_assoc]; exact hfz _ (by omega)) vB Y1) ?_
        rintro e' w' ⟨rfl,rfl⟩
        obtain ⟨_,_,f3⟩:=dK hs ho oq (off:=0 + l.length) (ds:=[at'].map aE) (us:=[at'].map di) (by simp; omega) (al.ints _)
        have e1:=eV ([at'].map aE) (l.map aE) rest (by rw [mG]; simp)
        rw [fM] at e1
        rw [Nat.zero_add,e1,mG] at f3
        refine ⟨G,.dj o 0 1 (l.length + 1) cap,_,_,rfl,.refl G,by simpa using f3,?_,o,cap,rest',rfl,CE,jo,Tm,.inr ⟨cap,rfl⟩,by simp⟩
        simp only [ar]
        exact ⟨_,oq,rfl,CE⟩
theorem M1 {T e : TypeId} (x : Int) (hu : P.underlying T = some (.slice e)) (hz : bE P e = some [.v (.int .i64 0)]) (hc : P.cellsOf e = 1) :
    (Instr.buildSlice T 1 #[(0,di x)]).run P w = .ok (.slice (some ⟨w.heap.size,0,none⟩) 1 1) (w.alloc (.cells #[di x] e)):=by
  obtain ⟨v,hv,hvz⟩:=dt hz;have h1 : iU (fun i=>some (i * P.cellsOf e,P.cellsOf e)) (ig (1 * P.cellsOf e) [.v (.int .i64 0)]) [(0,aE x)] = some [aE x]:=by
    rw [hc]; rfl
  have dz : v.cells.toList≠[]:=by
    intro e';rw [e'] at hvz;cases hvz
  rw [hvz] at h1;obtain ⟨vs,h2,h3⟩:=iM (G:=⟨fun _ _=>none,fun _=>none,fun _ _=>none,0,0,0,w,[]⟩) (qs:=((#[(0,di x)] : Array (Nat × Value))).toList) _ h1 (.cons 0 (by simp [aE,di,ar]) .nil) (lZ (1 * P.cellsOf e) dz);have h3 : vs = [di x]:=al.uT (l:=[x]) h3;subst h3;have cZ : (Array.range (1 * P.cellsOf e)).map (fun i=>v.cells[i % v.cells.size]!) = ((List.range (1 * P.cellsOf e)).map fun i=>v.cells.toList.toArray[i % v.cells.toList.toArray.size]!).toArray:=by
    apply Array.ext';simp
  simp only [Instr.buildSlice,Sem.run_bind,run_underlying hu,Result.andThen_ok,aV (show P.cellsOf e≠0 by omega)];rw [if_neg (by omega),if_neg (by omega)];simp only [Sem.run_bind,hv,Sem.run_pure,Result.andThen_ok,cZ];simp only [h2];simp [newRow]
theorem H8 {ρ : Ren} (L : Lays2.n21 P ρ) {E : Env} {a : Act} {o1 o : Oper} {xo io ao : Operand} {d1 : Tmp} {T e : TypeId} {l : List Int} {i : Nat} {x : Int} {ats : Array TypeId}
    (xe : o1.op = .buildSlice T 1 #[(0,ao)]) (Fb : o1.dst = some d1) (hu : P.underlying T = some (.slice e)) (hz : bE P e = some [.v (.int .i64 0)]) (hc : P.cellsOf e = 1)
    (ho : o.op = .call { callee:=.value (.func (ρ.f 21)),args:=#[xo,io,.tmp d1],argTypes:=ats }) (Y3 : ai P (ρ.f 21) = true) (KQ : xo≠.tmp d1) (KY : io≠.tmp d1)
    (hb : jb 1 s (aN Γ E xo) l.length (l.map aE)) (hi : aN Γ E io = .v (.int .i64 (i : Int))) (ha : aN Γ E ao = .v (.int .i64 x)) (KP : i≤l.length) (hn : l.length≤2 ^ 40)
    (hdN : d1 < N) (hr : Rel Γ N G E s a w) :
    ∃ G1 v w1,(execOp a.eval o1).run P w = .ok (.value v) w1∧G.le G1∧aU Γ G1 s w1∧ar G1 (.sl 1 1 [aE x] .no) v ∧
      ∀ a1,a1 = a.put o1.dst v→Rel Γ N G1 (bD E o1.dst (.sl 1 1 [aE x] .no)) s a1 w1→cJ P Γ G1 (fun r s'=>∃ ob cap rest,r = .dj ob 0 1 (l.length + 1) cap∧l.length + 1≤cap∧cap < 2 ^ 63∧rest.length = cap - (l.length + 1) ∧
        (s.aJ ob = none∨∃ iI,aN Γ E xo = .dj ob 0 1 l.length iI)∧s' = s.set ob ((l.take i ++ x :: l.drop i).map aE ++ rest)) ((execOp a1.eval o).run P w1):=by
  have hav:=hr.eval ao;rw [ha] at hav;simp only [ar] at hav;obtain ⟨g1,g2⟩:=hr.st.Lh [di x] #[di x] e (by simp);refine ⟨_,.slice (some ⟨w.heap.size,0,none⟩) 1 1,_,?_,g1,g2,?_,?_⟩
  · simp only [execOp,xe,Sem.run_bind];rw [show (#[(0,ao)] : Array (Nat × Operand)).map (fun p=>(p.1,a.eval p.2)) = #[(0,di x)] by simp [hav,di]];rw [M1 x hu hz hc];rfl
  · simp only [ar];refine .inl ⟨w.heap.size,0,1,[di x],rfl,rfl,Nat.le_refl _,al.ints [x],?_,trivial⟩;exact gg.added G w.heap.size 0 [di x]
  · rintro a1 rfl nF;have ex : (a.put o1.dst (.slice (some ⟨w.heap.size,0,none⟩) 1 1)).eval (.tmp d1) = .slice (some ⟨w.heap.size,0,none⟩) 1 1:=by
      rw [Fb];simp [Act.put,Act.eval,Array.getD,hr.size,hdN]
    have ep : ∀ y : Operand,y≠.tmp d1→(a.put o1.dst (.slice (some ⟨w.heap.size,0,none⟩) 1 1)).eval y = a.eval y:=fun y hy=>Act.eval_put (fun d hd=>by rw [Fb] at hd; cases hd; exact hy);have e2:=nF.eval xo;rw [B3 (fun d hd=>by rw [Fb] at hd; cases hd; exact KQ),ep xo KQ] at e2;have e3:=hr.eval io;rw [hi] at e3;simp only [ar] at e3;have Tn:=H7 L (s:=s) x hb KP hn g2 e2 (fun o b h=>hr.st.dI o b h);obtain ⟨dst,op,type,pos,after,guard⟩:=o;simp only at ho;subst ho;have ef : (a.put o1.dst (.slice (some ⟨w.heap.size,0,none⟩) 1 1)).eval (.func (ρ.f 21)) = .func (.func (ρ.f 21)) #[] #[]:=rfl;have:=(lz (w:=w.alloc (.cells #[di x] e)) Y3 #[a.eval xo,.int .i64 i,.slice (some ⟨w.heap.size,0,none⟩) 1 1]);simp only [execOp,resolve,Deferred.ofValue,invoke,ef,List.map_toArray,List.map_cons,List.map_nil,ep xo KQ,ep io KY,e3,ex,Sem.run_bind,Sem.run_pure,Result.andThen_ok];simp only [List.append_nil,Array.append_empty,Array.empty_append,this,cJ];exact Tn
theorem rL {n : Nat} (h : n < 63) (hl : lv n = 0) : ie (n : Int) = none:=by unfold ie; rw [fI h,if_pos hl]
theorem nN {n l : Nat} (h : n < 63) (hl : lv n = l + 1) : ie (n : Int) = some (((n - 2 ^ l : Nat) : Int),((n + 2 ^ l : Nat) : Int))∧lv (n - 2 ^ l) = l∧lv (n + 2 ^ l) = l∧n + 2 ^ l < 63∧2 ^ l≤n∧2 ^ l≤32:=by
  have key : ∀ n < 63,lv n≠0→lv (n - 2 ^ (lv n - 1)) = lv n - 1∧lv (n + 2 ^ (lv n - 1)) = lv n - 1∧n + 2 ^ (lv n - 1) < 63∧2 ^ (lv n - 1)≤n∧2 ^ lv n / 2 = 2 ^ (lv n - 1)∧2 ^ (lv n - 1)≤32:=(by decide +kernel);obtain ⟨k1,k2,k3,k4,k5,k6⟩:=key n h (by omega);rw [hl] at k1 k2 k3 k4 k5 k6;simp only [Nat.add_sub_cancel] at k1 k2 k3 k4 k5 k6;refine ⟨?_,k1,k2,k3,k4,k6⟩;unfold ie;rw [fI h,if_neg (by omega),hl,k5];congr 2;omega
theorem PR {L n : Nat} (h : Fit L) (hn : n < 2 * L - 1) : n + 2 ^ lv n≤2 * L - 1∧n < 63:=by
  obtain ⟨m,hm,rfl⟩:=h.pow;exact (by decide +kernel : ∀ m≤5,∀ n < 2 * 2 ^ m - 1,n + 2 ^ lv n≤2 * 2 ^ m - 1∧n < 63) m hm n hn
theorem aA.span {t : List aa} (h : aA t) {n : Nat} (hn : n < t.length) : n + 2 ^ lv n≤t.length∧n < 63:=by
  obtain ⟨h1,h2⟩:=h.len;rw [h1] at hn ⊢;exact PR h2 hn
def kf (skip : List Int) (l : List Int) : List Int:=(l.filter fun u=>decide (u ∉ skip)).map fun u=>2 * u
def nO (skip : List Int) (N : aa) (n : Nat) : List Int:=if (N.kind = 1∧((n / 2 : Nat) : Int) ∉ skip)∨N.kind = 2 then [(n : Int)] else []
def iK (t : List aa) (skip : List Int) : Nat→Nat→List Int
  | 0,n=>nO skip (nd t n) n ++ kf skip (nd t n).fF
  | l + 1,n=>if (nd t n).kind = 0 then iK t skip l (n - 2 ^ l) ++ iK t skip l (n + 2 ^ l) else nO skip (nd t n) n ++ kf skip (nd t n).fF
theorem rM {N : aa} (h : N.right) : N.fF.length≤32∧∀ u ∈ N.fF,0≤u∧u < 32:=by
  rcases j7 h with hk | hk | hk
  · rw [(j6 hk).1 h];exact ⟨by decide,(by intro u hu; cases hu)⟩
  · have:=((dT hk).1 h).2.2.2;rw [List.eq_nil_of_length_eq_zero this];exact ⟨by decide,(by intro u hu; cases hu)⟩
  · have:=((eQ hk).1 h).2.2;exact ⟨iJ this,fun u hu=>mB this hu⟩
theorem vi (skip l : List Int) : (kf skip l).length≤l.length:=by
  unfold kf;rw [List.length_map];exact List.length_filter_le _ _
theorem CF {skip l : List Int} {i : Nat} (h : i < l.length) : kf skip (l.take (i + 1)) = kf skip (l.take i) ++ if l[i] ∉ skip then [2 * l[i]] else []:=by
  unfold kf;rw [List.take_succ_eq_append_getElem h,List.filter_append,List.map_append];congr 1;by_cases hs : l[i] ∉ skip
  · rw [if_pos hs]; simp [hs]
  · rw [if_neg hs]; simp [hs]
theorem rN (skip : List Int) (N : aa) (n : Nat) : (nO skip N n).length≤1:=by
  unfold nO; split <;> simp
theorem qZ {t : List aa} (hr : aA t) (skip : List Int) : ∀ l n,(iK t skip l n).length≤33 * 2 ^ l
  | 0,n=>by
    have h1:=rN skip (nd t n) n;have h2:=vi skip (nd t n).fF;have h3:=(rM (hr.nd n)).1;simp only [iK,List.length_append];omega
  | l + 1,n=>by
    have hp:=Nat.two_pow_pos l;have yh : 2 ^ (l + 1) = 2 ^ l + 2 ^ l:=(by rw [Nat.pow_succ]; omega);simp only [iK];split
    · have h1:=qZ hr skip l (n - 2 ^ l);have h2:=qZ hr skip l (n + 2 ^ l);rw [List.length_append];omega
    · have h1:=rN skip (nd t n) n;have h2:=vi skip (nd t n).fF;have h3:=(rM (hr.nd n)).1;rw [List.length_append];omega
def gL (t : List aa) (x : Int) (skip : List Int) : List Int:=if 0≤x∧x < (t.length : Int)∧aA t then iK t skip (lv x.toNat) x.toNat else []
open Go Go.RowKit
def rF : AV→Option Nat
  | .dj o _ _ _ _=>some o
  | _=>none
def aK (p : aa × AV) : List AV:=[.v (.int .i64 p.1.kind),ak p.1.name .any,.v (.int .u64 p.1.key),ak p.1.parent .any,p.2]
theorem tD (p : aa × AV) : (aK p).length = 5:=rfl
theorem eE (n : aa) : n.cells.length = 5:=rfl
theorem jb.le {sz n : Nat} {x : AV} {cs : List AV} {s s' : AS} (h : jb sz s x n cs) (k : s.le s') : jb sz s' x n cs:=by
  rcases h with h | ⟨o,cap,rest,h1,h2,h3⟩
  · exact .inl h
  · exact .inr ⟨o,cap,rest,h1,k.aJ _ _ h2,h3⟩
theorem jb.mN {sz n : Nat} {x : AV} {cs : List AV} {s : AS} {o : Nat} {ds : List AV} (h : jb sz s x n cs) (k : rF x≠some o) : jb sz (s.set o ds) x n cs:=by
  rcases h with h | ⟨o',cap,rest,rfl,h2,h3⟩
  · exact .inl h
  · exact .inr ⟨o',cap,rest,rfl,by rw [AS.aR _ (fun e=>k (by rw [e]; rfl))]; exact h2,h3⟩
theorem jb.PS {sz n : Nat} {x : AV} {cs : List AV} {s : AS} {o : Nat} (h : jb sz s x n cs) (k : rF x≠some o) : jb sz (s.drop o) x n cs:=by
  rcases h with h | ⟨o',cap,rest,rfl,h2,h3⟩
  · exact .inl h
  · exact .inr ⟨o',cap,rest,rfl,by rw [AS.lP,eG _ _ (fun e=>k (by rw [e]; rfl))]; exact h2,h3⟩
theorem jb.some {sz n : Nat} {x : AV} {cs : List AV} {s : AS} {o : Nat} (h : jb sz s x n cs) (k : rF x = some o) : ∃ ds,s.aJ o = some ds:=by
  rcases h with ⟨_,_,rfl | rfl | rfl⟩ | ⟨o',cap,rest,rfl,h2,h3⟩
  · cases k
  · cases k
  · cases k
  · cases k; exact ⟨_,h2⟩
theorem pK {sz : Nat} {sp : Sp} (h : sp = .full∨sp = .new) : (AV.sl sz 0 [] sp).aL (.sl sz 0 [] .any):=by
  intro G u hv;simp only [ar] at hv ⊢;rcases hv with ⟨b,off,cap,vs,h1,h2,h3,h4,h5,h6⟩ | ⟨_,_,a,cap,h1,_⟩ | ⟨_,_,h1,_⟩
  · exact .inl ⟨b,off,cap,vs,h1,h2,h3,h4,h5,trivial⟩
  · exact .inr (.inl ⟨trivial,trivial,a,cap,h1,by simp⟩)
  · rcases h with rfl | rfl <;> cases h1
structure To (s0 s : AS) (T : List (aa × AV)) : Prop where
  buf : ∀ p ∈ T,jb 1 s p.2 p.1.fF.length (p.1.fF.map aE)
  new : ∀ p ∈ T,∀ o,rF p.2 = some o→s0.aJ o = none
  sep : T.Pairwise fun p q=>∀ o,rF p.2 = some o→rF q.2≠some o
structure cz (s0 s : AS) (X : AV) (T : List (aa × AV)) : Prop where
  xs : To s0 s T
  le : s0.le s
  row : jb 5 s X T.length (au aK T)
  Bs : ∀ O,rF X = some O→s0.aJ O = none
  DH : ∀ O,rF X = some O→∀ p ∈ T,rF p.2≠some O
theorem AS.le_none {s s' : AS} (h : s.le s') {o : Nat} (k : s'.aJ o = none) : s.aJ o = none:=by
  cases hs : s.aJ o with
  | none=>rfl
  | some cs=>rw [h.aJ _ _ hs] at k; cases k
theorem cz.nil (s : AS) : cz s s bL [] :=
  ⟨⟨fun p hp=>absurd hp (List.not_mem_nil),fun p hp=>absurd hp (List.not_mem_nil),.nil⟩,.refl s,.inl ⟨rfl,rfl,.inl rfl⟩,(fun O h=>by cases h),(fun O h=>by cases h)⟩
theorem cz.push {s0 s : AS} {X : AV} {T : List (aa × AV)} {p : aa × AV} {ob cap : Nat} {rest : List AV} (h : cz s0 s X T) (hb : jb 1 s p.2 p.1.fF.length (p.1.fF.map aE))
    (h1 : ∀ o,rF p.2 = some o→s0.aJ o = none∧(∀ q ∈ T,rF q.2≠some o)∧rF X≠some o) (h2 : s.aJ ob = none∨∃ iI,X = .dj ob 0 5 T.length iI) (h3 : T.length + 1≤cap) (h4 : cap < 2 ^ 63) (h5 : rest.length = (cap - (T.length + 1)) * 5) :
    cz s0 (s.set ob (au aK T ++ aK p ++ rest)) (.dj ob 0 5 (T.length + 1) cap) (T ++ [p]):=by
  have Y4 : s0.aJ ob = none:=by
    rcases h2 with h2 | ⟨iI,h2⟩
    · exact AS.le_none h.le h2
    · exact h.Bs ob (by rw [h2]; rfl)
  have dz : ∀ q ∈ T ++ [p],rF q.2≠some ob:=by
    intro q hq e;rw [List.mem_append,List.mem_singleton] at hq;rcases h2 with h2 | ⟨iI,h2⟩
    · have : ∃ ds,s.aJ ob = some ds:=by
        rcases hq with hq | rfl
        · exact (h.xs.buf q hq).some e
        · exact hb.some e
      rw [h2] at this;obtain ⟨ds,hd⟩:=this;cases hd
    · have hX : rF X = some ob:=(by rw [h2]; rfl);rcases hq with hq | rfl
      · exact h.DH ob hX q hq e
      · exact (h1 ob e).2.2 hX
  refine ⟨⟨fun q hq=>?_,fun q hq o ho=>?_,?_⟩,AS.bg h.le Y4 _,.inr ⟨ob,cap,rest,by rw [List.length_append]; rfl,by rw [AS.aj,vg],?_,by rw [List.length_append]; exact h5,by rw [List.length_append]; exact h3,h4⟩,fun O hO=>?_,fun O hO q hq=>?_⟩
  · have Ut:=hq;rw [List.mem_append,List.mem_singleton] at hq;rcases hq with hq | rfl
    · exact (h.xs.buf q hq).mN (dz q Ut)
    · exact hb.mN (dz q Ut)
  · rw [List.mem_append,List.mem_singleton] at hq;rcases hq with hq | rfl
    · exact h.xs.new q hq o ho
    · exact (h1 o ho).1
  · rw [List.pairwise_append];refine ⟨h.xs.sep,List.pairwise_singleton _ _,fun a ha b Hr o ho=>?_⟩;rw [List.mem_singleton] at Hr;subst Hr;intro e;exact (h1 o e).2.1 a ha ho
  · exact cL tD _
  · cases hO; exact Y4
  · cases hO; exact dz q hq
theorem Cx {s0 : AS} {O : Nat} {rest : List AV} (GR : s0.aJ O = none) (x : AV) : ∀ (B : List (aa × AV)) (A : List aa) (s : AS),To s0 s B→s0.le s→(∀ p ∈ B,rF p.2≠some O)→s.aJ O = some (au aa.cells A ++ au aK B ++ rest) →
    ∃ s',bf Γ s x s' x∧s'.aJ O = some (au aa.cells (A ++ B.map (·.1)) ++ rest)∧s0.le s':=by
  intro B;induction B with
  | nil =>
    intro A s _ hle _ hO;refine ⟨s,.refl x,?_,hle⟩;simpa [au] using hO
  | cons p B ih =>
    intro A s hx hle dz hO;have Tp : au aa.cells A ++ au aK (p :: B) ++ rest = (au aa.cells A ++ [.v (.int .i64 p.1.kind),ak p.1.name .any,.v (.int .u64 p.1.key),ak p.1.parent .any]) ++ p.2 :: (au aK B ++ rest):=by
      simp [au,aK]
    rw [Tp] at hO;have Rv : (au aa.cells A ++ [.v (.int .i64 p.1.kind),ak p.1.name .any,.v (.int .u64 p.1.key),ak p.1.parent .any]) ++ aC p.1.fF .any :: (au aK B ++ rest) = au aa.cells (A ++ [p.1]) ++ au aK B ++ rest:=by
      simp [au,aa.cells]
    have H9:=List.pairwise_cons.1 hx.sep;have hp : p ∈ p :: B:=List.mem_cons_self;have mG : ∀ s' : AS,(∀ q ∈ B,jb 1 s' q.2 q.1.fF.length (q.1.fF.map aE))→To s0 s' B:=fun s' h=>⟨h,fun q hq=>hx.new q (List.mem_cons_of_mem _ hq),H9.2⟩;rcases hx.buf p hp with ⟨h0,xc,hv⟩ | ⟨o,cap,rs,hv,ho,fM,lE,xb,jo⟩
    · have hw : p.2.aL (aC p.1.fF .any):=by
        have hu : p.1.fF = []:=List.eq_nil_of_length_eq_zero h0;rw [hu];rcases hv with hv | hv | hv
        · rw [hv]; exact AV.aP
        · rw [hv]; exact pK (.inl rfl)
        · rw [hv]; exact pK (.inr rfl)
      have h1:=bf.cells (Γ:=Γ) x hO hw;rw [Rv] at h1;obtain ⟨s',k1,k2,k3⟩:=ih (A ++ [p.1]) _ (mG _ fun q hq=>(hx.buf q (List.mem_cons_of_mem _ hq)).mN (dz q (List.mem_cons_of_mem _ hq))) (AS.bg hle GR _) (fun q hq=>dz q (List.mem_cons_of_mem _ hq)) (AS.aj _ _ _);refine ⟨s',h1.trans k1,?_,k3⟩;simpa using k2
    · have hpo : rF p.2 = some o:=(by rw [hv]; rfl);have hOo : O≠o:=fun e=>dz p hp (by rw [hpo,e]);rw [hv] at hO;have h1:=bf.inner (Γ:=Γ) x hO ho hOo fM;have e : (AV.sl 1 p.1.fF.length (p.1.fF.map aE) .any) = aC p.1.fF .any:=rfl;rw [e,Rv] at h1;obtain ⟨s',k1,k2,k3⟩:=ih (A ++ [p.1]) _ (mG _ fun q hq=>((hx.buf q (List.mem_cons_of_mem _ hq)).PS (H9.1 q hq o hpo)).mN (dz q (List.mem_cons_of_mem _ hq))) (AS.bg (AS.yr hle (hx.new p hp o hpo)) GR _) (fun q hq=>dz q (List.mem_cons_of_mem _ hq)) (AS.aj _ _ _);refine ⟨s',h1.trans k1,?_,k3⟩;simpa using k2
theorem cz.settle {s0 s : AS} {X : AV} {T : List (aa × AV)} (h : cz s0 s X T) : ∃ s',bf Γ s X s' (ax (T.map (·.1)))∧s0.le s':=by
  rcases h.row with ⟨h0,xc,hv⟩ | ⟨O,cap,rest,hv,hO,fM,lE,xb,jo⟩
  · have hT : T = []:=List.eq_nil_of_length_eq_zero h0;subst hT;refine ⟨s,bf.aL ?_,h.le⟩;rcases hv with hv | hv | hv
    · rw [hv]; exact AV.aP
    · rw [hv]; exact pK (.inl rfl)
    · rw [hv]; exact pK (.inr rfl)
  · have hX : rF X = some O:=(by rw [hv]; rfl);obtain ⟨s1,k1,k2,k3⟩:=Cx (Γ:=Γ) (h.Bs O hX) X T [] s h.xs h.le (h.DH O hX) (by simpa [au] using hO);rw [List.nil_append] at k2;have k4:=bf.outer (Γ:=Γ) (n:=T.length) (sz:=5) (cap:=cap) k2 (by rw [cL eE,List.length_map]);rw [hv] at k1 ⊢;refine ⟨_,k1.trans ?_,AS.yr k3 (h.Bs O hX)⟩;unfold ax;rw [List.length_map];exact k4
theorem aU.drewN (h : aU Γ G s w) : ∀ q,aU Γ G s (w.drewN q)
  | 0=>h
  | q + 1=>(aU.drewN h q).drew
theorem D0 {ρ : Ren} (L : Lays2.n25 P ρ) {x : AV} {l : List Int} (v : Int) (hl : l.length < 2 ^ 62) (hs : l.Pairwise (·≤·)) (hb : jb 1 s x l.length (l.map aE)) :
    ah P Γ (ρ.f 25) [x,.v (.int .i64 v)] s (fun r s'=>r = .dZ [.v (.int .i64 ((l.countP (· < v) : Nat) : Int)),.v (.bool (l.contains v))]∧s' = s):=by
  intro G w vs Un hv;simp only [al] at hv;obtain ⟨u,us,rfl,hx,u2,us2,rfl,h2,rfl⟩:=hv;simp only [ar] at h2;subst h2;have fin : ∀ q,∃ G' r v' s',Ending.returned (.tuple #[.int .i64 ((l.countP (· < v) : Nat) : Int),.bool (l.contains v)]) = .returned v'∧G.le G'∧aU Γ G' s' (w.drewN q)∧ar G' r v'∧(r = .dZ [.v (.int .i64 ((l.countP (· < v) : Nat) : Int)),.v (.bool (l.contains v))]∧s' = s):=by
    intro q;refine ⟨G,_,_,s,rfl,.refl G,Un.drewN q,?_,rfl,rfl⟩;simp only [ar,al];exact ⟨[_,_],rfl,_,_,rfl,rfl,_,_,rfl,rfl,rfl⟩
  have emp : ∀ a c,l = []→Calls P (ρ.f 25) #[.slice a 0 c,.int .i64 v] w fun e w'=>∃ G' r v' s',e = .returned v'∧G.le G'∧aU Γ G' s' w'∧ar G' r v'∧(r = .dZ [.v (.int .i64 ((l.countP (· < v) : Nat) : Int)),.v (.bool (l.contains v))]∧s' = s):=by
    intro a c h0;refine (Any.slices_BinarySearch_int_empty L a c v w).mono ?_;rintro e w' ⟨rfl,rfl⟩;subst h0;exact fin 0
  rcases hb with ⟨h0,xc,LV⟩ | ⟨o,cap,rest,rfl,ho,fM,lE,xb,jo⟩
  · have hle : l = []:=List.eq_nil_of_length_eq_zero h0;rcases LV with rfl | rfl | rfl
    · simp only [bL,ar] at hx;subst hx;exact emp _ _ hle
    · simp only [ar] at hx;rcases hx with ⟨b,off,cap,vs,rfl,_⟩ | ⟨_,_,a,cap,rfl,_⟩ | ⟨_,_,_,rfl⟩ <;> exact emp _ _ hle
    · simp only [ar] at hx;rcases hx with ⟨b,off,cap,vs,rfl,_⟩ | ⟨_,_,a,cap,rfl,_⟩ | ⟨_,_,_,rfl⟩ <;> exact emp _ _ hle
  · simp only [ar] at hx;obtain ⟨b,oq,rfl,_⟩:=hx;obtain ⟨b',vs,q1,q2,q3,q4⟩:=Un.aJ o _ ho;rw [oq] at q1;cases q1;have HR:=q2.take (l.map aE).length;rw [List.take_left] at HR;have HR:=al.uT HR;have hc : ∀ j,j < l.length→w.cell? ⟨b,0 + j,none⟩ = some (.int .i64 (l.getD j 0)):=by
      intro j hj;rw [Nat.zero_add];refine (q4 j _ ?_).1;have : (vs.take (l.map aE).length)[j]? = some (di l[j]):=(by rw [HR]; simp [hj]);rw [List.getElem?_take] at this;split at this
      · rw [this]; simp [di,List.getD,hj]
      · cases this
    refine (Any.slices_BinarySearch_int L b 0 l.length cap l v w (Nat.le_refl _) (by omega) hc (by rw [List.take_length]; exact hs)).mono ?_;rintro e w' ⟨rfl,q,rfl⟩;rw [List.take_length];exact fin q
theorem xE (l : List UInt8) : ∀ c ∈ l.map aw,∃ x,c = .v x:=by
  intro c hc;obtain ⟨b,_,rfl⟩:=List.mem_map.1 hc;exact ⟨_,rfl⟩
theorem Ia (l : List Int) : ∀ c ∈ l.map aE,∃ x,c = .v x:=by
  intro c hc;obtain ⟨b,_,rfl⟩:=List.mem_map.1 hc;exact ⟨_,rfl⟩
theorem View.xcl {sz : Nat} : View Γ s (.v (.slice none 0 0)) (.sl sz 0 [] .any):=fun G w u _ hv=>AV.aP _ _ (by simpa [Go.AM.bL,ar] using hv)
theorem jb.view {sz n : Nat} {x : AV} {cs ds : List AV} (h : jb sz s x n cs) (k : iv Γ s cs ds) (hd : cs = []→ds = []) : View Γ s x (.sl sz n ds .any):=by
  rcases h with ⟨rfl,h0,hx⟩ | ⟨o,cap,rest,rfl,ho,fM,_⟩
  · rw [hd h0];rcases hx with rfl | rfl | rfl
    · exact View.xcl
    · exact View.empty (.inl rfl)
    · exact View.empty (.inr rfl)
  · exact View.xbf ho fM k
theorem CG {s0 : AS} : ∀ {T : List (aa × AV)},(∀ p ∈ T,jb 1 s p.2 p.1.fF.length (p.1.fF.map aE))→iv Γ s (au aK T) (au aa.cells (T.map (·.1)))
  | [],_=>by simpa [au] using (iv.nil : iv Γ s [] [])
  | p :: T,h=>by
    have h1 : iv Γ s (aK p) p.1.cells:=by
      refine .cons .val (.cons (View.sl (xE _)) (.cons .val (.cons (View.sl (xE _)) (.cons ?_ .nil))));exact (h p (List.mem_cons_self)).view (iv.flat (Ia _)) (fun e=>e)
    have h2:=CG (s0:=s0) (T:=T) (fun q hq=>h q (List.mem_cons_of_mem _ hq));have e1 : au aK (p :: T) = aK p ++ au aK T:=(by simp [au]);have e2 : au aa.cells ((p :: T).map (·.1)) = p.1.cells ++ au aa.cells (T.map (·.1)):=(by simp [au]);rw [e1,e2];exact h1.append h2
theorem cz.view {s0 : AS} {X : AV} {T : List (aa × AV)} (h : cz s0 s X T) : View Γ s X (ax (T.map (·.1))):=by
  have:=h.row.view (CG (Γ:=Γ) (s0:=s0) h.xs.buf) (fun e=>by
    cases T with
    | nil=>rfl
    | cons p T=>simp [au,aK] at e)
  unfold ax;rw [List.length_map];exact this
def bq (name : List UInt8) (key : Nat) : aa:=⟨1,name,key,[],[]⟩
def sj (u : List Int) (v : Int) : List Int:=u.take (u.countP (· < v)) ++ v :: u.drop (u.countP (· < v))
def mO (v : Nat) (t : List aa) (up : Nat) : List aa:=if (nd t up).kind = 2 then t.set up { nd t up with fF:=sj (nd t up).fF (v : Int) } else t
def Uz (t : List aa) : Nat→Nat→Nat
  | 0,i=>i
  | f + 1,i=>if bx t (i : Int) then Uz t f (i + 1) else i
def aM (t : List aa) : Nat:=Uz t 33 0
def eB (t : List aa) (v : Nat) : List aa:=if v = aY t then t ++ List.replicate (t.length + 1) aa.bp else t
def iQ (t : List aa) (v : Nat) (n : aa) : List aa:=(aD v (aY (eB t v))).foldl (mO v) ((eB t v).set (2 * v) n)
theorem M3 (u : List Int) (v : Int) : (sj u v).length = u.length + 1:=by
  have : u.countP (· < v)≤u.length:=List.countP_le_length;simp [sj];omega
theorem FZ (v : Nat) (t : List aa) (up : Nat) : (mO v t up).length = t.length:=by
  unfold mO;split <;> simp
theorem wG (v : Nat) : ∀ (l : List Nat) (t : List aa),(l.foldl (mO v) t).length = t.length
  | [],_=>rfl
  | x :: l,t=>by rw [List.foldl_cons,wG v l,FZ]
theorem Jg {t : List aa} {i : Nat} (h : bx t (i : Int)) : i < aY t:=by have:=h.2.1; omega
theorem F0 (t : List aa) : ∀ f i,aY t < i + f→i≤aY t→(∀ j,j < i→bx t (j : Int))→Uz t f i≤aY t∧¬ bx t ((Uz t f i : Nat) : Int)∧∀ j,j < Uz t f i→bx t (j : Int)
  | 0,i,h,h2,_=>by omega
  | f + 1,i,h,h2,hj=>by
    simp only [Uz];split
    · rename_i hm;have:=Jg hm;refine F0 t f (i + 1) (by omega) (by omega) (fun j cN=>?_);by_cases e : j = i
      · rw [e]; exact hm
      · exact hj j (by omega)
    · rename_i hm;exact ⟨h2,hm,hj⟩
theorem mP (t : List aa) : aM t≤aY t∧¬ bx t ((aM t : Nat) : Int)∧∀ j,j < aM t→bx t (j : Int) :=
  F0 t 33 0 (by have:=fL t; omega) (Nat.zero_le _) (fun j h=>by omega)
def eo (t : List aa) (name : List UInt8) (key : Nat) : List aa × Nat × Int :=
  if ¬ aA t then ([],0,40)
  else if ¬ (bq name key).right then ([],0,2)
  else if 0≤fa t name 0 then ([],0,31)
  else if aM t = 32 then ([],0,21)
  else (iQ t (aM t) (bq name key),aM t,0)
def fm (t : List aa) : AV:=if t = [] then bL else ax t
variable {Γ : Nat→List AV} {s : AS}
theorem cz.put {s0 s s1 : AS} {O cap : Nat} {rest : List AV} {T : List (aa × AV)} {i : Nat} {p : aa × AV} {n : Nat} (h : cz s0 s (.dj O 0 5 n cap) T) (hi : i < T.length) (hn : n = T.length)
    (hle : ∀ o,o≠O→(∀ ob,rF p.2 = some ob→o≠ob)→∀ cs,s.aJ o = some cs→s1.aJ o = some cs) (Tq : s0.le s1) (hb : jb 1 s1 p.2 p.1.fF.length (p.1.fF.map aE)) (hO : s1.aJ O = some (au aK (T.set i p) ++ rest)) (lE : rest.length = (cap - T.length) * 5) (dA : T.length≤cap) (jo : cap < 2 ^ 63)
    (iV : ∀ ob,rF p.2 = some ob→ob≠O∧s0.aJ ob = none∧∀ j (hj : j < T.length),j≠i→rF (T[j]).2≠some ob) : cz s0 s1 (.dj O 0 5 n cap) (T.set i p):=by
  have H9:=List.pairwise_iff_getElem.1 h.xs.sep;have kF : ∀ j (hj : j < (T.set i p).length),(T.set i p)[j] = if i = j then p else T[j]'(by simpa using hj):=fun j hj=>List.getElem_set ..
  refine ⟨⟨fun q hq=>?_,fun q hq o ho=>?_,?_⟩,Tq,.inr ⟨O,cap,rest,by simp [hn],hO,by rw [cL tD],by simpa using lE,by simpa using dA,jo⟩,h.Bs,fun O' Ks q hq=>?_⟩
  · obtain ⟨j,hj,rfl⟩:=List.mem_iff_getElem.1 hq;rw [kF];split
    · exact hb
    · rename_i dz;have gh : j < T.length:=(by simpa using hj);rcases h.xs.buf _ (List.getElem_mem gh) with h1 | ⟨o,c,rs,h1,h2,h3⟩
      · exact .inl h1
      · have ho : rF (T[j]).2 = some o:=(by rw [h1]; rfl);exact .inr ⟨o,c,rs,h1,hle o (fun e=>h.DH O rfl _ (List.getElem_mem gh) (by rw [ho,e])) (fun ob eU e=>(iV ob eU).2.2 j gh (fun e=>dz e.symm) (by rw [ho,e])) _ h2,h3⟩
  · obtain ⟨j,hj,rfl⟩:=List.mem_iff_getElem.1 hq;rw [kF] at ho;split at ho
    · exact (iV o ho).2.1
    · exact h.xs.new _ (List.getElem_mem _) o ho
  · rw [List.pairwise_iff_getElem];intro a b ha Hr tO o ho;rw [kF] at ho ⊢;have ha' : a < T.length:=(by simpa using ha);have Y5 : b < T.length:=(by simpa using Hr);by_cases ea : i = a
    · rw [if_pos ea] at ho;rw [if_neg (by omega)];exact (iV o ho).2.2 b Y5 (by omega)
    · rw [if_neg ea] at ho;by_cases eb : i = b
      · rw [if_pos eb];intro e;exact (iV o e).2.2 a ha' (by omega) ho
      · rw [if_neg eb];exact H9 a b ha' Y5 tO o ho
  · obtain ⟨j,hj,rfl⟩:=List.mem_iff_getElem.1 hq;cases Ks;rw [kF];split
    · exact fun e=>(iV O e).1 rfl
    · exact h.DH O rfl _ (List.getElem_mem _)
namespace Sha
def ft (a b : Nat) : Nat:=(a + b) % 4294967296
def nv (x n : Nat) : Nat:=(x / 2 ^ n) ||| ((x * 2 ^ (32 - n)) % 4294967296)
def M4 (x a b c : Nat) : Nat:=(nv x a ^^^ nv x b) ^^^ nv x c
def D3 (x a b c : Nat) : Nat:=(nv x a ^^^ nv x b) ^^^ (x / 2 ^ c)
def Ib (a b c d : Nat) : Nat:=((a * 256 + b) * 256 + c) * 256 + d
def word (c : List UInt8) (p : List Nat) (i : Nat) : Nat :=
  if i < 16 then Ib ((c.getD (4 * i) 0).toNat) ((c.getD (4 * i + 1) 0).toNat) ((c.getD (4 * i + 2) 0).toNat) ((c.getD (4 * i + 3) 0).toNat)
  else ft (ft (ft (D3 (p.getD (i - 2) 0) 17 19 10) (p.getD (i - 7) 0)) (D3 (p.getD (i - 15) 0) 7 18 3)) (p.getD (i - 16) 0)
def m6 (c : List UInt8) : Nat→List Nat
  | 0=>[]
  | n + 1=>m6 c n ++ [word c (m6 c n) n]
theorem da (c : List UInt8) (n : Nat) : (m6 c n).length = n:=by
  induction n with
  | zero=>rfl
  | succ n ih=>simp [m6,ih]
def t1 (e f g h k w : Nat) : Nat:=ft (ft (ft (ft h (M4 e 6 11 25)) ((e &&& f) ^^^ ((4294967295 - e) &&& g))) k) w
def t2 (a b c : Nat) : Nat:=ft (M4 a 2 13 22) (((a &&& b) ^^^ (a &&& c)) ^^^ (b &&& c))
structure St where
  a : Nat
  b : Nat
  c : Nat
  d : Nat
  e : Nat
  f : Nat
  g : Nat
  h : Nat
def St.step (s : St) (k w : Nat) : St :=
  ⟨ft (t1 s.e s.f s.g s.h k w) (t2 s.a s.b s.c),s.a,s.b,s.c,ft s.d (t1 s.e s.f s.g s.h k w),s.e,s.f,s.g⟩
def St.add (s t : St) : St:=⟨ft s.a t.a,ft s.b t.b,ft s.c t.c,ft s.d t.d,ft s.e t.e,ft s.f t.f,ft s.g t.g,ft s.h t.h⟩
def St.list (s : St) : List Nat:=[s.a,s.b,s.c,s.d,s.e,s.f,s.g,s.h]
structure St.ok (s : St) : Prop where
  a : s.a < 4294967296
  b : s.b < 4294967296
  c : s.c < 4294967296
  d : s.d < 4294967296
  e : s.e < 4294967296
  f : s.f < 4294967296
  g : s.g < 4294967296
  h : s.h < 4294967296
def K : List Nat:=[
  0x428a2f98,0x71374491,0xb5c0fbcf,0xe9b5dba5,0x3956c25b,0x59f111f1,0x923f82a4,0xab1c5ed5,
  0xd807aa98,0x12835b01,0x243185be,0x550c7dc3,0x72be5d74,0x80deb1fe,0x9bdc06a7,0xc19bf174,
  0xe49b69c1,0xefbe4786,0x0fc19dc6,0x240ca1cc,0x2de92c6f,0x4a7484aa,0x5cb0a9dc,0x76f988da,
  0x983e5152,0xa831c66d,0xb00327c8,0xbf597fc7,0xc6e00bf3,0xd5a79147,0x06ca6351,0x14292967,
  0x27b70a85,0x2e1b2138,0x4d2c6dfc,0x53380d13,0x650a7354,0x766a0abb,0x81c2c92e,0x92722c85,
  0xa2bfe8a1,0xa81a664b,0xc24b8b70,0xc76c51a3,0xd192e819,0xd6990624,0xf40e3585,0x106aa070,
  0x19a4c116,0x1e376c08,0x2748774c,0x34b0bcb5,0x391c0cb3,0x4ed8aa4a,0x5b9cca4f,0x682e6ff3,
  0x748f82ee,0x78a5636f,0x84c87814,0x8cc70208,0x90befffa,0xa4506ceb,0xbef9a3f7,0xc67178f2]
def H0 : St:=⟨0x6a09e667,0xbb67ae85,0x3c6ef372,0xa54ff53a,0x510e527f,0x9b05688c,0x1f83d9ab,0x5be0cd19⟩
def rounds (w : List Nat) (s : St) : Nat→St
  | 0=>s
  | n + 1=>(rounds w s n).step (K.getD n 0) (w.getD n 0)
def mix (s : St) (c : List UInt8) : St:=s.add (rounds (m6 c 64) s 64)
def Eo (l : List UInt8) (i : Nat) : List UInt8:=(l.drop (64 * i)).take 64
def hash (l : List UInt8) : Nat→St
  | 0=>H0
  | n + 1=>mix (hash l n) (Eo l n)
def ix (n : Nat) : Nat:=(119 - n % 64) % 64
def yi (n : Nat) : List UInt8:=[UInt8.ofNat (8 * n / 2 ^ 56),UInt8.ofNat (8 * n / 2 ^ 48),UInt8.ofNat (8 * n / 2 ^ 40),UInt8.ofNat (8 * n / 2 ^ 32),UInt8.ofNat (8 * n / 2 ^ 24),UInt8.ofNat (8 * n / 2 ^ 16),UInt8.ofNat (8 * n / 2 ^ 8),UInt8.ofNat (8 * n)]
def pad (l : List UInt8) : List UInt8:=l ++ (128 :: (List.replicate (ix l.length) 0 ++ yi l.length))
theorem tE (l : List UInt8) : (pad l).length = l.length + 9 + ix l.length:=by simp [pad,yi]; omega
theorem Jh (l : List UInt8) : (pad l).length % 64 = 0:=by rw [tE,ix]; omega
def be (x : Nat) : List UInt8:=[UInt8.ofNat (x / 2 ^ 24),UInt8.ofNat (x / 2 ^ 16),UInt8.ofNat (x / 2 ^ 8),UInt8.ofNat x]
def St.bytes (s : St) : List UInt8:=be s.a ++ be s.b ++ be s.c ++ be s.d ++ be s.e ++ be s.f ++ be s.g ++ be s.h
def sum (l : List UInt8) : List UInt8:=(hash (pad l) ((pad l).length / 64)).bytes
theorem dq (l : List UInt8) : (sum l).length = 32:=rfl
theorem gN (a b : Nat) : ft a b < 4294967296:=Nat.mod_lt _ (by decide)
theorem cM {x : Nat} (n : Nat) (h : x < 4294967296) : nv x n < 4294967296 :=
  Nat.or_lt_two_pow (n:=32) (Nat.lt_of_le_of_lt (Nat.div_le_self _ _) h) (Nat.mod_lt _ (by decide))
theorem PU (a b c d : UInt8) : Ib a.toNat b.toNat c.toNat d.toNat < 4294967296:=by
  have:=a.toNat_lt; have:=b.toNat_lt; have:=c.toNat_lt; have:=d.toNat_lt;simp only [Ib]; omega
theorem PV (c : List UInt8) (p : List Nat) (i : Nat) : word c p i < 4294967296:=by
  unfold word;split
  · exact PU _ _ _ _
  · exact gN _ _
theorem Ts (c : List UInt8) (n : Nat) : ∀ x ∈ m6 c n,x < 4294967296:=by
  induction n with
  | zero=>intro x hx; simp [m6] at hx
  | succ n ih =>
    intro x hx;simp only [m6,List.mem_append,List.mem_singleton] at hx;rcases hx with hx | rfl
    · exact ih x hx
    · exact PV _ _ _
theorem nP (c : List UInt8) (n i : Nat) : (m6 c n).getD i 0 < 4294967296:=by
  rw [List.getD_eq_getElem?_getD];cases h : (m6 c n)[i]? with
  | none=>simp
  | some x=>exact Ts c n x (List.mem_of_getElem? h)
theorem Y6 : H0.ok:=by constructor <;> decide
theorem St.ok.step {s : St} (h : s.ok) (k w : Nat) : (s.step k w).ok:=⟨gN _ _,h.a,h.b,h.c,gN _ _,h.e,h.f,h.g⟩
theorem St.ok.add (s t : St) : (s.add t).ok:=⟨gN _ _,gN _ _,gN _ _,gN _ _,gN _ _,gN _ _,gN _ _,gN _ _⟩
theorem wH {w : List Nat} {s : St} (h : s.ok) : ∀ n,(rounds w s n).ok
  | 0=>h
  | n + 1=>(wH h n).step _ _
theorem Tt (s : St) (c : List UInt8) : (mix s c).ok:=St.ok.add _ _
theorem Ji (l : List UInt8) : ∀ n,(hash l n).ok
  | 0=>Y6
  | n + 1=>Tt _ _
end Sha
namespace Mac
def key (k : List UInt8) : List UInt8:=if 64 < k.length then Sha.sum k else k
def fill (k : List UInt8) : List UInt8:=k ++ List.replicate (64 - k.length) 0
def turn (x : UInt8) (l : List UInt8) : List UInt8:=l.map fun c=>c ^^^ x
def inner (k l : List UInt8) : List UInt8:=Sha.sum (turn 54 (fill (key k)) ++ l)
def tag (k l : List UInt8) : List UInt8:=Sha.sum (turn 92 (fill (key k)) ++ inner k l)
theorem D4 (k l : List UInt8) : (tag k l).length = 32:=Sha.dq _
def part (x : UInt8) (l : List UInt8) (i : Nat) : List UInt8:=turn x (l.take i) ++ l.drop i
theorem iy : ∀ (ds cs : List AV) (off : Nat),off + ds.length≤cs.length→bm cs off ds = cs.take off ++ ds ++ cs.drop (off + ds.length)
  | [],cs,off,h=>by simp [bm]
  | d :: ds,cs,off,h=>by
    rw [bm,iy ds (cs.set off d) (off + 1) (by simp at h ⊢; omega)];simp only [List.length_cons] at h;have h1 : (cs.set off d).take (off + 1) = cs.take off ++ [d]:=by
      rw [List.take_succ_eq_append_getElem (by simp; omega),List.getElem_set_self,List.take_set_of_le (Nat.le_refl off)]
    have h2 : (cs.set off d).drop (off + 1 + ds.length) = cs.drop (off + (ds.length + 1)):=by
      rw [List.drop_set_of_lt (by omega)];congr 1;omega
    rw [h1,h2,List.length_cons];simp
end Mac
open Go
theorem gM {n : aa} (h : n.right) : n.name.length≤16∧n.parent.length≤32∧n.fF.length≤32:=by
  unfold aa.right at h;split at h
  · rw [h]; simp [aa.bp]
  · split at h
    · obtain ⟨h1,h2,h3,h4⟩:=h;have:=h3.2.2;omega
    · split at h
      · obtain ⟨h1,h3,h4⟩:=h;have:=h3.2.2;have:=iJ h4;omega
      · exact h.elim
theorem Kt {l : List Int} (h : fG l) {i j : Nat} (Y0 : i < j) (hj : j < l.length) : l.getD i 0 < l.getD j 0:=by
  induction j with
  | zero=>omega
  | succ j ih =>
    have h1:=(h (j + 1) hj).2.2 (by omega);rw [Nat.add_sub_cancel] at h1;by_cases e : i = j
    · rw [e]; exact h1
    · have:=ih (by omega) (by omega);omega
theorem oi {l : List Int} (h : fG l) : l.Pairwise (· < ·):=by
  rw [List.pairwise_iff_getElem];intro i j hi hj Y0;have:=Kt h Y0 hj;simpa [List.getD,hi,hj] using this
theorem tw (t : List aa) (i : Nat) (x : aa) (j : Nat) : nd (t.set i x) j = if i = j∧i < t.length then x else nd t j:=by
  unfold nd;simp only [List.getD_eq_getElem?_getD,List.getElem?_set];by_cases h : i = j
  · by_cases k : i < t.length
    · rw [if_pos h,if_pos k,if_pos ⟨h,k⟩]; rfl
    · rw [if_pos h,if_neg k,if_neg (fun q=>k q.2)];subst h;rw [List.getElem?_eq_none (by omega)]
  · rw [if_neg h,if_neg (fun q=>h q.1)]
theorem q9 {t : List aa} {i : Nat} (h : t.length≤i) : nd t i = aa.bp:=by
  unfold nd;rw [List.getD_eq_getElem?_getD,List.getElem?_eq_none h]; rfl
theorem Jj (t : List aa) (v j : Nat) : nd (eB t v) j = nd t j:=by
  unfold eB;split
  · by_cases h : j < t.length
    · unfold nd;rw [List.getD_eq_getElem?_getD,List.getD_eq_getElem?_getD,List.getElem?_append_left h]
    · rw [q9 (t:=t) (by omega)];unfold nd;rw [List.getD_eq_getElem?_getD,List.getElem?_append_right (by omega),List.getElem?_replicate];split <;> rfl
  · rfl
def F1 (x : aa) (v : Nat) : aa:={ x with fF:=sj x.fF (v : Int) }
theorem PW (v : Nat) (t : List aa) (up j : Nat) (h : up < t.length) : nd (mO v t up) j = if up = j∧(nd t j).kind = 2 then F1 (nd t j) v else nd t j:=by
  unfold mO;by_cases hk : (nd t up).kind = 2
  · rw [if_pos hk,tw];by_cases e : up = j
    · subst e;rw [if_pos ⟨rfl,h⟩,if_pos ⟨rfl,hk⟩]; rfl
    · rw [if_neg (fun q=>e q.1),if_neg (fun q=>e q.1)]
  · rw [if_neg hk];by_cases e : up = j
    · subst e;rw [if_neg (fun q=>hk q.2)]
    · rw [if_neg (fun q=>e q.1)]
theorem Af (v : Nat) : ∀ (l : List Nat) (t : List aa),l.Nodup→(∀ u ∈ l,u < t.length)→∀ j,nd (l.foldl (mO v) t) j = if j ∈ l∧(nd t j).kind = 2 then F1 (nd t j) v else nd t j
  | [],t,_,_,j=>by simp
  | x :: l,t,hn,hl,j=>by
    have ZZ:=List.nodup_cons.1 hn;have hx:=hl x List.mem_cons_self;rw [List.foldl_cons,Af v l (mO v t x) ZZ.2 (fun u hu=>by rw [FZ]; exact hl u (List.mem_cons_of_mem _ hu)),PW v t x j hx];by_cases e : x = j
    · subst e;rw [if_neg (fun q=>ZZ.1 q.1)];by_cases hk : (nd t x).kind = 2
      · rw [if_pos ⟨rfl,hk⟩,if_pos ⟨List.mem_cons_self,hk⟩]
      · rw [if_neg (fun q=>hk q.2),if_neg (fun q=>hk q.2)]
    · rw [if_neg (show ¬ (x = j∧(nd t j).kind = 2) from fun q=>e q.1)];have hm : j ∈ x :: l↔j ∈ l:=by
        rw [List.mem_cons];exact ⟨fun h=>h.resolve_left (fun q=>e q.symm),.inr⟩
      simp only [hm]
theorem Ag {leaf l : Nat} (hl : Fit l) (h : leaf < l) : (aD leaf l).Nodup:=by
  obtain ⟨m,hm,rfl⟩:=hl.pow;exact (by decide +kernel : ∀ m≤5,∀ leaf < 2 ^ m,(aD leaf (2 ^ m)).Nodup) m hm leaf h
def Jk : Bool:=(List.range 6).all fun m=>(List.range (2 ^ m)).all fun leaf=>(List.range (2 * 2 ^ m - 1)).all fun u=>!(decide (u % 2 = 1) && (decide (lo u≤leaf) && decide (leaf≤hi u))) || decide (u ∈ aD leaf (2 ^ m))
theorem D5 : Jk = true:=by decide +kernel
theorem ra {leaf l : Nat} (hl : Fit l) (h : leaf < l) (u : Nat) : u ∈ aD leaf l↔u < 2 * l - 1∧u % 2 = 1∧lo u≤leaf∧leaf≤hi u:=by
  refine ⟨iw hl h u,fun ⟨h1,h2,h3,h4⟩=>?_⟩;obtain ⟨m,hm,rfl⟩:=hl.pow;have k:=D5;unfold Jk at k;rw [List.all_eq_true] at k;have k1:=k m (List.mem_range.2 (by omega));rw [List.all_eq_true] at k1;have k2:=k1 leaf (List.mem_range.2 h);rw [List.all_eq_true] at k2;have k3:=k2 u (List.mem_range.2 h1);rw [decide_eq_true h2,decide_eq_true h3,decide_eq_true h4] at k3;simpa using k3
theorem Ah {t : List aa} {L : Nat} (hL : aY t = L) (i : Int) : bx t i↔0≤i∧i < (L : Int)∧(nd t (2 * i.toNat)).kind = 1:=by unfold bx; rw [hL]
theorem bW {t : List aa} {L : Nat} (hL : aY t = L) (i : Nat) : bx t (i : Int)↔i < L∧(nd t (2 * i)).kind = 1:=by
  rw [Ah hL,Int.toNat_natCast];exact ⟨fun h=>⟨by omega,h.2.2⟩,fun h=>⟨by omega,by omega,h.2⟩⟩
theorem pH {t : List aa} {L : Nat} (hL : Fit L) (hlen : t.length = 2 * L - 1) : aA t ↔
    (∀ i,i < 2 * L - 1→(nd t i).right∧((nd t i).kind = 0∨((nd t i).kind = 1↔i % 2 = 0))∧∀ u ∈ (nd t i).fF,(lo i : Int)≤u∧u≤(hi i : Int)∧0≤u∧u < (L : Int)∧(nd t (2 * u.toNat)).kind = 1) ∧
    (∀ a b,a < b→b < L→(nd t (2 * a)).kind = 1→(nd t (2 * b)).kind = 1→(nd t (2 * b)).name≠(nd t (2 * a)).name) ∧
    (L = 1∨∃ j,L / 2≤j∧j < L∧(nd t (2 * j)).kind = 1):=by
  have hl:=jg hL hlen;have hb:=hL.le;have hh : iS t = L:=(by unfold iS; omega);have HJ : ∀ i,i < 2 * L - 1→kY (i : Int) = ((lo i : Int),(hi i : Int)):=by
    intro i aO;unfold kY;rw [if_pos (by omega),Int.toNat_natCast]
  have xcm : 0 < dF (bx t) (L / 2) (L - L / 2)↔∃ j,L / 2≤j∧j < L∧(nd t (2 * j)).kind = 1:=by
    rw [oQ];constructor
    · rintro ⟨j,h1,h2⟩;have:=(bW hl _).1 h2;exact ⟨L / 2 + j,by omega,this.1,this.2⟩
    · rintro ⟨j,h1,h2,h3⟩;refine ⟨j - L / 2,by omega,?_⟩;rw [show L / 2 + (j - L / 2) = j by omega];exact (bW hl _).2 ⟨h2,h3⟩
  unfold aA;rw [hl,xcm];constructor
  · rintro ⟨_,h2,h3⟩;refine ⟨fun i aO=>?_,fun a b tO Tg ha Hr=>?_,h3⟩
    · obtain ⟨⟨k1,k2,k3⟩,_⟩:=h2 i (by omega);refine ⟨k1,k2,fun u hu=>?_⟩;obtain ⟨q1,q2,q3⟩:=k3 u hu;rw [HJ i aO] at q1 q2;have:=(Ah hl u).1 q3;exact ⟨q1,q2,this.1,this.2.1,this.2.2⟩
    · intro e;have:=(h2 (2 * a) (by omega)).2 (by omega) (by rw [show 2 * a / 2 = a by omega]; exact (bW hl a).2 ⟨by omega,ha⟩) b (by omega) (by omega);exact this ⟨(bW hl b).2 ⟨Tg,Hr⟩,e⟩
  · rintro ⟨h1,h2,h3⟩;refine ⟨by omega,fun i aO=>⟨⟨?_,?_,?_⟩,?_⟩,h3⟩
    · exact (h1 i (by omega)).1
    · exact (h1 i (by omega)).2.1
    · intro u hu;obtain ⟨q1,q2,q3,q4,q5⟩:=(h1 i (by omega)).2.2 u hu;rw [HJ i (by omega)];exact ⟨q1,q2,(Ah hl u).2 ⟨q3,q4,q5⟩⟩
    · intro he hm j hj Y0 ⟨hmj,hn⟩;have h5:=(bW hl _).1 hm;have h6:=(bW hl _).1 hmj;rw [show 2 * (i / 2) = i by omega] at h5;refine h2 (i / 2) j Y0 h6.1 (by rw [show 2 * (i / 2) = i by omega]; exact h5.2) h6.2 ?_;rw [show 2 * (i / 2) = i by omega];exact hn
theorem Aj : ∀ {a b : List Int},a.Pairwise (· < ·)→b.Pairwise (· < ·)→(∀ x,x ∈ a↔x ∈ b)→a = b
  | [],[],_,_,_=>rfl
  | [],y :: b,_,_,h=>by have:=(h y).2 List.mem_cons_self; cases this
  | x :: a,[],_,_,h=>by have:=(h x).1 List.mem_cons_self; cases this
  | x :: a,y :: b,ha,hb,h=>by
    obtain ⟨ha1,ha2⟩:=List.pairwise_cons.1 ha;obtain ⟨oq,JK⟩:=List.pairwise_cons.1 hb;have e : x = y:=by
      have h1:=(h x).1 List.mem_cons_self;have h2:=(h y).2 List.mem_cons_self;rw [List.mem_cons] at h1 h2;rcases h1 with h1 | h1
      · exact h1
      · rcases h2 with h2 | h2
        · exact h2.symm
        · have:=oq _ h1;have:=ha1 _ h2;omega
    subst e;have : a = b:=Aj ha2 JK fun z=>by
      have hz:=h z;rw [List.mem_cons,List.mem_cons] at hz;constructor
      · intro hza;exact (hz.1 (.inr hza)).resolve_left (fun q=>by have:=ha1 _ hza; omega)
      · intro hzb;exact (hz.2 (.inr hzb)).resolve_left (fun q=>by have:=oq _ hzb; omega)
    rw [this]
theorem Cy {l : List Int} (h : l.Pairwise (· < ·)) (k : ∀ x ∈ l,0≤x∧x < 32) : fG l:=by
  intro i hi;refine uH hi (k _ (List.getElem_mem hi)).1 (k _ (List.getElem_mem hi)).2 (fun h0=>?_);exact List.pairwise_iff_getElem.1 h (i - 1) i (by omega) hi (by omega)
theorem Ak (u : List Int) (v x : Int) : x ∈ sj u v↔x = v∨x ∈ u:=by
  unfold sj;rw [List.mem_append,List.mem_cons];have : x ∈ u↔x ∈ u.take (u.countP (· < v))∨x ∈ u.drop (u.countP (· < v)):=by
    rw [← List.mem_append,List.take_append_drop]
  rw [this];constructor
  · rintro (h | h | h)
    · exact .inr (.inl h)
    · exact .inl h
    · exact .inr (.inr h)
  · rintro (h | h | h)
    · exact .inr (.inl h)
    · exact .inl h
    · exact .inr (.inr h)
theorem xF (v : Int) : ∀ {u : List Int},u.Pairwise (· < ·)→(∀ x ∈ u.take (u.countP (· < v)),x < v)∧(∀ x ∈ u.drop (u.countP (· < v)),v≤x)
  | [],_=>by simp
  | a :: u,h=>by
    obtain ⟨h1,h2⟩:=List.pairwise_cons.1 h;by_cases ha : a < v
    · have ih:=xF v h2;rw [List.countP_cons_of_pos (by simpa using ha),List.take_succ_cons,List.drop_succ_cons];refine ⟨fun x hx=>?_,ih.2⟩;rw [List.mem_cons] at hx;rcases hx with rfl | hx
      · exact ha
      · exact ih.1 x hx
    · have h0 : u.countP (· < v) = 0:=by
        rw [List.countP_eq_zero];intro x hx;have:=h1 x hx;simp; omega
      rw [List.countP_cons_of_neg (by simpa using ha),h0];refine ⟨by simp,fun x hx=>?_⟩;simp only [List.drop_zero,List.mem_cons] at hx;rcases hx with rfl | hx
      · omega
      · have:=h1 x hx;omega
theorem xG {u : List Int} {v : Int} (h : u.Pairwise (· < ·)) (hv : v ∉ u) : (sj u v).Pairwise (· < ·):=by
  obtain ⟨h1,h2⟩:=xF v h;unfold sj;rw [List.pairwise_append,List.pairwise_cons];have hs:=h;rw [← List.take_append_drop (u.countP (· < v)) u,List.pairwise_append] at hs;refine ⟨hs.1,⟨fun x hx=>?_,hs.2.1⟩,fun x hx y hy=>?_⟩
  · have:=h2 x hx;have dz : v≠x:=fun e=>hv (by rw [e]; exact List.mem_of_mem_drop hx);omega
  · rw [List.mem_cons] at hy;rcases hy with rfl | hy
    · exact h1 x hx
    · exact hs.2.2 x hx y hy
theorem F2 {u : List Int} {v : Nat} (h : fG u) (hv : (v : Int) ∉ u) (nh : v < 32) : fG (sj u (v : Int)):=by
  refine Cy (xG (oi h) hv) fun x hx=>?_;rcases (Ak _ _ _).1 hx with rfl | hx
  · omega
  · exact mB h hx
def Tu (u : List Int) (v : Nat) : List Int:=((List.range 32).filter fun k=>decide (k = v∨(k : Int) ∈ u)).map fun (k : Nat)=>(k : Int)
theorem PY {u : List Int} {v : Nat} (h : fG u) (hv : (v : Int) ∉ u) (nh : v < 32) : Tu u v = sj u (v : Int):=by
  refine Aj ?_ (xG (oi h) hv) fun x=>?_
  · unfold Tu;rw [List.pairwise_map];refine List.Pairwise.imp (fun {a b} (tO : a < b)=>by omega) ?_;exact List.Pairwise.filter _ List.pairwise_lt_range
  · rw [Ak];unfold Tu;simp only [List.mem_map,List.mem_filter,List.mem_range,decide_eq_true_eq];constructor
    · rintro ⟨k,⟨h1,h2⟩,rfl⟩;rcases h2 with rfl | h2
      · exact .inl rfl
      · exact .inr h2
    · rintro (rfl | hx)
      · exact ⟨v,⟨nh,.inl rfl⟩,rfl⟩
      · have:=mB h hx;exact ⟨x.toNat,⟨by omega,.inr (by rwa [Int.toNat_of_nonneg this.1])⟩,Int.toNat_of_nonneg this.1⟩
open Go Go.RowKit
variable {P : Program} {Γ : Nat→List AV} {s : AS}
theorem tF {T : List (aa × AV)} {u : Nat} (h : u < T.length) : au aK T = au aK (T.take u) ++ aK T[u] ++ au aK (T.drop (u + 1)):=by
  have e : T = T.take u ++ T[u] :: T.drop (u + 1):=(by rw [List.getElem_cons_drop,List.take_append_drop]);have e2 : au aK T = au aK (T.take u ++ T[u] :: T.drop (u + 1)):=(by rw [← e]);rw [e2];simp only [au,List.map_append,List.map_cons,List.flatten_append,List.flatten_cons,List.append_assoc]
theorem iz (T : List (aa × AV)) : (au aK T).length = T.length * 5:=cL tD T
theorem om {T : List (aa × AV)} {u : Nat} (h : u < T.length) : (au aK (T.take u)).length = u * 5:=by rw [iz,List.length_take]; congr 1; omega
theorem F3 {T : List (aa × AV)} {u : Nat} (h : u < T.length) (p : aa × AV) (rest : List AV) : bm (au aK T ++ rest) (u * 5) (aK p) = au aK (T.set u p) ++ rest:=by
  have hl:=om h;have e2 : au aK (T.set u p) = au aK (T.take u) ++ aK p ++ au aK (T.drop (u + 1)):=by
    rw [List.set_eq_take_append_cons_drop,if_pos h];simp [au]
  rw [e2,tF h];rw [Mac.iy _ _ _ (by simp [aK,hl])];have a1 : (au aK (T.take u) ++ aK T[u] ++ au aK (T.drop (u + 1)) ++ rest).take (u * 5) = au aK (T.take u):=by
    rw [List.append_assoc,List.append_assoc,← hl,List.take_left]
  have a2 : (au aK (T.take u) ++ aK T[u] ++ au aK (T.drop (u + 1)) ++ rest).drop (u * 5 + (aK p).length) = au aK (T.drop (u + 1)) ++ rest:=by
    have e3 : u * 5 + (aK p).length = (au aK (T.take u) ++ aK T[u]).length:=(by rw [List.length_append,hl]; rfl);rw [e3,List.append_assoc _ _ rest,List.drop_left]
  rw [a1,a2];simp
theorem M5 {T : List (aa × AV)} {u : Nat} (h : u < T.length) (l : List Int) (x : AV) (rest : List AV) : bm (au aK T ++ rest) (u * 5 + 4) [x] = au aK (T.set u ({ T[u].1 with fF:=l },x)) ++ rest:=by
  have hl:=om h;have e2 : au aK (T.set u ({ T[u].1 with fF:=l },x)) = au aK (T.take u) ++ aK ({ T[u].1 with fF:=l },x) ++ au aK (T.drop (u + 1)):=by
    rw [List.set_eq_take_append_cons_drop,if_pos h];simp [au]
  rw [e2,tF h];obtain ⟨N,y⟩:=T[u];have e3 : au aK (T.take u) ++ aK (N,y) ++ au aK (T.drop (u + 1)) ++ rest = (au aK (T.take u) ++ [.v (.int .i64 N.kind),ak N.name .any,.v (.int .u64 N.key),ak N.parent .any]) ++ (y :: (au aK (T.drop (u + 1)) ++ rest)):=by
    simp [aK]
  rw [e3];have e4 : u * 5 + 4 = (au aK (T.take u) ++ [.v (.int .i64 N.kind),ak N.name .any,.v (.int .u64 N.key),ak N.parent .any]).length:=by
    rw [List.length_append,hl]; rfl
  rw [e4];simp only [bm];rw [List.set_append_right _ _ (Nat.le_refl _),Nat.sub_self,List.set_cons_zero];simp [aK]
theorem CH {T : List (aa × AV)} {u : Nat} (h : u < T.length) (rest : List AV) : (au aK T ++ rest).drop (u * 5) = aK T[u] ++ (au aK (T.drop (u + 1)) ++ rest):=by
  rw [tF h,← om h,List.append_assoc,List.append_assoc,List.drop_left]
theorem M6 {T : List (aa × AV)} {u : Nat} (h : u < T.length) (rest : List AV) : (au aK T ++ rest).drop (u * 5 + 4) = T[u].2 :: (au aK (T.drop (u + 1)) ++ rest):=by
  rw [← List.drop_drop,CH h];rfl
theorem cz.dj {s0 s : AS} {X : AV} {T : List (aa × AV)} (h : cz s0 s X T) (h0 : T.length≠0) : ∃ O cap rest,X = .dj O 0 5 T.length cap∧s.aJ O = some (au aK T ++ rest)∧rest.length = (cap - T.length) * 5∧T.length≤cap∧cap < 2 ^ 63:=by
  rcases h.row with ⟨h1,_⟩ | ⟨O,cap,rest,h1,h2,_,h4,h5,h6⟩
  · exact absurd h1 h0
  · exact ⟨O,cap,rest,h1,h2,h4,h5,h6⟩
theorem cz.PZ {s0 s : AS} {O cap : Nat} {rest : List AV} {T : List (aa × AV)} {u : Nat} {p : aa × AV} (h : cz s0 s (.dj O 0 5 T.length cap) T) (hu : u < T.length) (hO : s.aJ O = some (au aK T ++ rest)) (lE : rest.length = (cap - T.length) * 5) (dA : T.length≤cap) (jo : cap < 2 ^ 63)
    (hp : p.1.fF = []) (hx : p.2 = bL) : cz s0 (s.set O (bm (au aK T ++ rest) (u * 5) (aK p))) (.dj O 0 5 T.length cap) (T.set u p):=by
  have GR:=h.Bs O rfl;refine h.put (s1:=s.set O (bm (au aK T ++ rest) (u * 5) (aK p))) hu rfl (fun o ho _ cs hc=>by rw [AS.aR _ ho]; exact hc) (AS.bg h.le GR _) ?_ (by rw [AS.aj,F3 hu]) lE dA jo (fun ob eU=>?_)
  · refine .inl ⟨by rw [hp]; rfl,by rw [hp]; rfl,.inl hx⟩
  · rw [hx] at eU; cases eU
theorem cz.ins {s0 s : AS} {O cap : Nat} {rest : List AV} {T : List (aa × AV)} {u ob cap' m : Nat} {l : List Int} {rest' : List AV} (h : cz s0 s (.dj O 0 5 T.length cap) T) (hu : u < T.length) (hO : s.aJ O = some (au aK T ++ rest)) (lE : rest.length = (cap - T.length) * 5) (dA : T.length≤cap) (jo : cap < 2 ^ 63)
    (KO : l.length≤cap') (Ba : cap' < 2 ^ 63) (N4 : rest'.length = cap' - l.length) (nA : s.aJ ob = none∨∃ c0,(T[u]).2 = .dj ob 0 1 m c0) :
    cz s0 ((s.set ob (l.map aE ++ rest')).set O (bm (au aK T ++ rest) (u * 5 + 4) [.dj ob 0 1 l.length cap'])) (.dj O 0 5 T.length cap) (T.set u ({ (T[u]).1 with fF:=l },.dj ob 0 1 l.length cap')):=by
  have GR:=h.Bs O rfl;have H9:=List.pairwise_iff_getElem.1 h.xs.sep;have eU : ob≠O∧s0.aJ ob = none∧∀ j (hj : j < T.length),j≠u→rF (T[j]).2≠some ob:=by
    rcases nA with hf | ⟨c0,hf⟩
    · refine ⟨fun e=>(by rw [e,hO] at hf; cases hf),AS.le_none h.le hf,fun j hj _ e=>?_⟩;obtain ⟨ds,hd⟩:=(h.xs.buf _ (List.getElem_mem hj)).some e;rw [hf] at hd; cases hd
    · have ho : rF (T[u]).2 = some ob:=(by rw [hf]; rfl);refine ⟨fun e=>h.DH O rfl _ (List.getElem_mem hu) (by rw [ho,e]),h.xs.new _ (List.getElem_mem hu) _ ho,fun j hj dz e=>?_⟩;rcases Nat.lt_or_gt_of_ne dz with q | q
      · exact H9 j u hj hu q ob e ho
      · exact H9 u j hu hj q ob ho e
  refine h.put (s1:=(s.set ob (l.map aE ++ rest')).set O (bm (au aK T ++ rest) (u * 5 + 4) [.dj ob 0 1 l.length cap'])) hu rfl (fun o ho hp cs hc=>?_) (AS.bg (AS.bg h.le eU.2.1 _) GR _) ?_ (by rw [AS.aj,M5 hu]) lE dA jo (fun Rw Tv=>?_)
  · rw [AS.aR _ ho,AS.aR _ (hp ob rfl)]; exact hc
  · refine .inr ⟨ob,cap',rest',rfl,by rw [AS.aR _ eU.1,AS.aj],by simp,by simpa using N4,KO,Ba⟩
  · cases Tv;exact eU
theorem bf.P0 {s s' : AS} {x y : AV} (vs : List AV) (h : bf Γ s x s' y) : bf Γ s (.dZ (x :: vs)) s' (.dZ (y :: vs)):=by
  intro G w u hs hv;simp only [ar] at hv ⊢;obtain ⟨us,rfl,vB⟩:=hv;simp only [al] at vB;obtain ⟨u0,vA,rfl,h1,h2⟩:=vB;obtain ⟨G',k1,k2,k3⟩:=h G w u0 hs h1;exact ⟨G',k1,k2,_,rfl,by simp only [al]; exact ⟨u0,vA,rfl,k3,al.mono k1 _ _ h2⟩⟩
theorem Jl {t : List aa} {L : Nat} (hL : Fit L) {v : Nat} (hv : v < L) (n : aa) (hlen : (eB t v).length = 2 * L - 1) {i : Nat} (hi : i < (aD v L).length) :
    nd (((aD v L).take i).foldl (mO v) ((eB t v).set (2 * v) n)) ((aD v L)[i]) = nd t ((aD v L)[i]):=by
  have hnd:=Ag hL hv;have hp:=fun x hx=>iw hL hv x hx;have ik:=hp _ (List.getElem_mem hi);rw [Af v _ _ (hnd.sublist (List.take_sublist _ _)) (fun u hu=>by rw [List.length_set,hlen]; exact (hp u (List.mem_of_mem_take hu)).1),if_neg,tw,if_neg (fun q=>by have:=q.1; omega),Jj];rintro ⟨q,_⟩;obtain ⟨j,hj,e⟩:=List.mem_iff_getElem.1 q;rw [List.getElem_take] at e;rw [List.length_take] at hj;have:=(List.getElem_inj hnd).1 e;omega
def zN : List AV:=[.v (.int .i64 0),.v (.slice none 0 0),.v (.int .u64 0),.v (.slice none 0 0),.v (.slice none 0 0)]
def pN : aa × AV:=(aa.bp,bL)
theorem D6 : ∀ k : Nat,ig (k * 5) zN = (List.replicate k zN).flatten
  | 0=>rfl
  | k + 1=>by
    have ih:=D6 k;unfold ig at ih ⊢;rw [Nat.succ_mul,List.range_add,List.map_append,ih,List.replicate_succ',List.flatten_append];congr 1;have hl : zN.length = 5:=rfl;have e : List.range 5 = [0,1,2,3,4]:=rfl;rw [e];simp only [List.map_cons,List.map_nil,hl];rw [show (k * 5 + 0) % 5 = 0 by omega,show (k * 5 + 1) % 5 = 1 by omega,show (k * 5 + 2) % 5 = 2 by omega,show (k * 5 + 3) % 5 = 3 by omega,show (k * 5 + 4) % 5 = 4 by omega];rfl
theorem Jm : ∀ k : Nat,te.aL (List.replicate k zN).flatten (au aK (List.replicate k pN))
  | 0=>.refl _
  | k + 1=>by
    have e1 : (List.replicate (k + 1) zN).flatten = zN ++ (List.replicate k zN).flatten:=(by rw [List.replicate_succ,List.flatten_cons]);have e2 : au aK (List.replicate (k + 1) pN) = aK pN ++ au aK (List.replicate k pN):=(by rw [List.replicate_succ]; rfl);rw [e1,e2];exact te.aL.append (.cons (AV.aL.refl _) (.cons AV.aP (.cons (AV.aL.refl _) (.cons AV.aP (.cons (AV.aL.refl _) .nil))))) (Jm k)
theorem Ku (k : Nat) (T : List (aa × AV)) (rest : List AV) : te.aL (au aK T ++ ig (k * 5) zN ++ rest) (au aK (T ++ List.replicate k pN) ++ rest):=by
  have e : au aK (T ++ List.replicate k pN) = au aK T ++ au aK (List.replicate k pN):=(by simp only [au,List.map_append,List.flatten_append]);rw [e,D6];exact te.aL.append (te.aL.append (.refl _) (Jm k)) (.refl _)
theorem cz.grow {s0 s : AS} {X : AV} {T : List (aa × AV)} {ob cap : Nat} (h : cz s0 s X T) (hf : s.aJ ob = none∨∃ iI,X = .dj ob 0 5 T.length iI) (jo : cap < 2 ^ 63) :
    ∀ (k : Nat) (rest : List AV),T.length + (k + 1)≤cap→rest.length = (cap - (T.length + (k + 1))) * 5→cz s0 (s.set ob (au aK (T ++ List.replicate (k + 1) pN) ++ rest)) (.dj ob 0 5 (T.length + (k + 1)) cap) (T ++ List.replicate (k + 1) pN)
  | 0,rest,h1,h2=>by
    have:=h.push (p:=pN) (ob:=ob) (cap:=cap) (rest:=rest) (.inl ⟨rfl,rfl,.inl rfl⟩) (fun o ho=>by cases ho) hf h1 jo h2;have e : au aK (T ++ List.replicate (0 + 1) pN) = au aK T ++ aK pN:=vg _ _;rw [e];exact this
  | k + 1,rest,h1,h2=>by
    have ih:=cz.grow h hf jo k (aK pN ++ rest) (by omega) (by
      rw [List.length_append,h2];show 5 + _ = _;rw [show cap - (T.length + (k + 1)) = (cap - (T.length + (k + 1 + 1))) + 1 by omega,Nat.succ_mul];omega)
    have hl : (T ++ List.replicate (k + 1) pN).length = T.length + (k + 1):=(by simp);have:=ih.push (p:=pN) (ob:=ob) (cap:=cap) (rest:=rest) (.inl ⟨rfl,rfl,.inl rfl⟩) (fun o ho=>by cases ho) (.inr ⟨cap,by rw [hl]⟩) (by rw [hl]; omega) jo (by rw [hl,h2]; congr 1);rw [AS.set_set,hl] at this;have e : T ++ List.replicate (k + 1 + 1) pN = T ++ List.replicate (k + 1) pN ++ [pN]:=(by rw [List.replicate_succ' (n:=k + 1),List.append_assoc]);have e2 : au aK (T ++ List.replicate (k + 1) pN ++ [pN]) = au aK (T ++ List.replicate (k + 1) pN) ++ aK pN:=vg _ _;rw [e,e2];exact this
theorem M7 {T : List (aa × AV)} {t : List aa} (h : T.map (·.1) = t) (k : Nat) : (T ++ List.replicate k pN).map (·.1) = t ++ List.replicate k aa.bp:=by
  rw [List.map_append,h,List.map_replicate]; rfl
theorem wv {R a b : List AV} {off : Nat} (hl : a.length = b.length) (h : off + a.length≤R.length) (w : te.aL a b) : te.aL (bm R off a) (bm R off b):=by
  rw [Mac.iy _ _ _ h,Mac.iy _ _ _ (by omega),hl];exact te.aL.append (te.aL.append (.refl _) w) (.refl _)
theorem F4 : te.aL zN (aK pN):=.cons (AV.aL.refl _) (.cons AV.aP (.cons (AV.aL.refl _) (.cons AV.aP (.cons (AV.aL.refl _) .nil))))
theorem AS.rI {Γ : Nat→List AV} {s : AS} {O : Nat} {a b : List AV} (w : te.aL a b) : AS.tells Γ (s.set O a) (s.set O b):=by
  have:=AS.j0 (Γ:=Γ) (AS.aj s O a) w;rwa [AS.set_set] at this
theorem cz.cut {s0 s : AS} {O cap k : Nat} {T : List (aa × AV)} (h : cz s0 s (.dj O 0 5 T.length cap) T) (hk : k≤T.length) : cz s0 s (.dj O 0 5 k cap) (T.take k):=by
  have Ld : (T.take k).length = k:=(by rw [List.length_take]; omega);refine ⟨⟨fun p hp=>h.xs.buf p (List.mem_of_mem_take hp),fun p hp=>h.xs.new p (List.mem_of_mem_take hp),h.xs.sep.sublist (List.take_sublist _ _)⟩,h.le,?_,fun O' Ks=>h.Bs O' Ks,fun O' Ks p hp=>h.DH O' Ks p (List.mem_of_mem_take hp)⟩;rcases h.row with ⟨h0,h1,h2⟩ | ⟨O2,JQ,rest,e,h2,h3,h4,h5,h6⟩
  · rcases h2 with h2 | h2 | h2 <;> cases h2
  · injection e with e1 _ _ _ e5;subst e1 e5;have hs : au aK T = au aK (T.take k) ++ au aK (T.drop k):=by
      conv=>lhs; rw [← List.take_append_drop k T]
      simp only [au,List.map_append,List.flatten_append]
    refine .inr ⟨O,cap,au aK (T.drop k) ++ rest,by rw [Ld],by rw [h2,hs,List.append_assoc],iz _,?_,by omega,h6⟩;rw [List.length_append,iz,List.length_drop,h4,Ld,← Nat.add_mul];congr 1;omega
theorem cz.Tw {s0 s : AS} {O cap ob cap' : Nat} {T : List (aa × AV)} {rest' : List AV} (h : cz s0 s (.dj O 0 5 T.length cap) T) (eU : s.aJ ob = none) (hl : T.length≤cap') (jo : cap' < 2 ^ 63) (lE : rest'.length = (cap' - T.length) * 5) :
    cz s0 (s.set ob (au aK T ++ rest')) (.dj ob 0 5 T.length cap') T:=by
  have dz : ∀ p ∈ T,rF p.2≠some ob:=fun p hp e=>by
    obtain ⟨ds,hd⟩:=(h.xs.buf p hp).some e;rw [eU] at hd; cases hd
  refine ⟨⟨fun p hp=>(h.xs.buf p hp).mN (dz p hp),h.xs.new,h.xs.sep⟩,AS.bg h.le (AS.le_none h.le eU) _,.inr ⟨ob,cap',rest',rfl,AS.aj _ _ _,iz _,lE,hl,jo⟩,fun O' Ks=>?_,fun O' Ks p hp=>?_⟩
  · cases Ks; exact AS.le_none h.le eU
  · cases Ks; exact dz p hp
theorem cz.xcn {s0 s : AS} {X : AV} {T : List (aa × AV)} (h : cz s0 s X T) : (au aK T).all AV.one = true:=by
  rw [List.all_eq_true];intro c hc;obtain ⟨r,hr,hc⟩:=List.mem_flatten.1 hc;obtain ⟨p,hp,rfl⟩:=List.mem_map.1 hr;simp only [aK,List.mem_cons,List.not_mem_nil,or_false] at hc;rcases hc with rfl | rfl | rfl | rfl | rfl
  · rfl
  · rfl
  · rfl
  · rfl
  · rcases h.xs.buf p hp with ⟨_,_,q | q | q⟩ | ⟨_,_,_,q,_⟩ <;> rw [q] <;> rfl
theorem iB {α β : Type} (f : β→α→β) (b : β) {l : List α} {i : Nat} (h : i < l.length) : (l.take (i + 1)).foldl f b = f ((l.take i).foldl f b) l[i]:=by
  rw [List.take_succ_eq_append_getElem h,List.foldl_append];rfl
end Go.AM
