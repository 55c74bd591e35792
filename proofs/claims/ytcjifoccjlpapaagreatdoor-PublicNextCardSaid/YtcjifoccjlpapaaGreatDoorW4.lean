/- Contracts of functions, each walked once; each theorem states its conditions. -/
import Derived.Test.YtcjifoccjlpapaaGreatDoorAMp6
import Derived.Test.YtcjifoccjlpapaaGreatDoorW1
import Derived.Test.YtcjifoccjlpapaaGreatDoorW3
import Derived.Test.YtcjifoccjlpapaaGreatDoorW2
import Derived.Test.YtcjifoccjlpapaaGreatDoorAMp5
set_option linter.unusedSimpArgs false
set_option linter.unusedVariables false
open Nat renaming reduceLT → Na, reduceLeDiff → Nb, reduceEqDiff → Nc, reduceAdd → Nk, reduceMul → Nf, reducePow → Ng, reduceSub → Nh, reduceBEq → Nz
open Int renaming reduceLT → Za, reduceLE → Zb, reduceToNat → Zc
open And renaming intro → Ai
open Go.AM renaming ashift → Qa, aconv → Qb, aindexAddr → Qc, aindex → Qd, aslice → Qe, abuiltin → Qf, awp_reg_seq → wS, awp_reg_end → wE, awp_seq_k → wK, awp_cond_k → wC
open Go.AM.AV renaming cells → Qg, one → Qh
set_option maxRecDepth 100000
set_option maxHeartbeats 8000000
namespace Go.Proofs.YtcjifoccjlpapaaGreatDoor
open Go Go.AM Go.Proofs Tryz
variable {Γ : Nat→List AV}
theorem dX (t : List aa) (ht : t.length≤2 ^ 61) (s : AS) : ah prog Γ 77 [ax t] s (fun r s'=>r = .v (.int .i64 (aY t))∧s' = s):=by
 refine ab func77 rfl ntmps77 results77 (by simp) ?_;unfold ax;generalize au aa.cells t = X at *
 refine jA ?_;refine wK fun K hK=>?_;refine jA ?_;refine ag ?_;refine aH (fun E s2=>∃ j : Nat,j≤6∧(∀ k,k < j→t.length≠2 * 2 ^ k - 1)∧E 3 = .v (.int .i64 ((2 ^ j : Nat) : Int))∧E 0 = .sl 5 t.length X .any∧s2 = s)
  (fun E _=>match E 3 with | .v (.int _ i)=>100 - i.toNat | _=>0) ?_ ?_
 ·exact ⟨0,by omega,fun k h=>absurd h (Nat.not_lt_zero _),rfl,rfl,rfl⟩
 ·rintro E1 s2 ⟨j,hj,bT,g3,g0,rfl⟩ -
  refine wK fun K2 aX=>?_;by_cases gh : j≤5
  ·have hp:=kt gh;have e1 : kO .i64 2 ((2 ^ j : Nat) : Int) = ((2 * 2 ^ j : Nat) : Int):=bw _ (by omega);have e2 : ed .i64 ((2 * 2 ^ j : Nat) : Int) 1 = ((2 * 2 ^ j - 1 : Nat) : Int):=(by rw [b6 (by omega)]; omega);have e3 : kO .i64 ((2 ^ j : Nat) : Int) 2 = ((2 ^ (j + 1) : Nat) : Int):=(by rw [fh (by omega),Nat.pow_succ]; omega);have h1 : decide (((2 ^ j : Nat) : Int)≤32) = true:=decide_eq_true (by omega);generalize hP : 2 ^ j = P at *
   refine jB (Ai @g3 @h1) ?_;refine jE ?_;refine ad ?_;refine aX _ _ ?_;clear aX K2;refine wK fun K3 bB=>?_;refine ag ?_;by_cases he : t.length = 2 * P - 1
   ·refine jB (Ai @g0 (Ai @g3 (Ai @e1 (Ai @e2 (Mf he))))) ?_;refine jE ?_;refine jB @g3 ?_;refine jI ?_;rw [jg (by rw [← hP]; exact DY gh) he];exact jW ⟨rfl,rfl⟩
   ·refine jB (Ai @g0 (Ai @g3 (Ai @e1 (Ai @e2 (Mg he))))) ?_;refine jF ?_;refine ad ?_;simp only [aq,av,if_true,if_false];refine bB _ _ ?_;clear bB K3;refine jD (Ai @g3 @e3) ?_;refine ⟨⟨j + 1,by omega,?_,rfl,g0,rfl⟩,?_⟩
    ·intro k hk;by_cases e : k = j
     ·rw [e,hP]; exact he
     ·exact bT k (by omega)
    ·have : P < 2 ^ (j + 1):=(by rw [Nat.pow_succ,hP]; omega);simp only [g3,aG,↓reduceIte];omega
  ·obtain rfl : j = 6:=(by omega);have h1 : decide (((2 ^ 6 : Nat) : Int)≤32) = false:=(by decide);refine jB (Ai @g3 @h1) ?_;refine jF ?_;refine aB ?_;simp only [av,aq,if_true];refine hK _ _ ?_;clear hK aX K2 K;refine jA ?_;refine jI ?_;rw [MX (t:=t) (fun n hn=>by obtain ⟨m,hm,rfl⟩:=hn.pow; exact bT m (by omega))];exact jW ⟨rfl,rfl⟩
theorem cn (t : List aa) (ht : t.length≤2 ^ 61) (i : Int) (s : AS) : ah prog Γ 30 [ax t,.v (.int .i64 i)] s (fun r s'=>r = .v (.bool (decide (c7 t i)))∧s' = s):=by
 refine ab func30 rfl ntmps30 results30 (by simp) ?_;have bN:=fun i (h : i < t.length)=>cT (t:=t) h;unfold ax;generalize au aa.cells t = X at *
 have mZ : ¬ c7 t i→decide (c7 t i) = false:=fun h=>decide_eq_false h;refine jA ?_;by_cases h0 : 0≤i
 ·obtain ⟨n,rfl⟩:=Int.eq_ofNat_of_zero_le h0;by_cases h1 : n < t.length
  ·have e1:=bw n (by omega);by_cases h2 : 2 * n < t.length
   ·have gq:=bN (2 * n) h2;have hk : decide (c7 t (n : Int)) = ((nd t (2 * n)).kind == 1):=by
     rw [Bool.eq_iff_iff,decide_eq_true_iff,beq_iff_eq];unfold c7;rw [Int.toNat_natCast];exact ⟨fun k=>k.2.2,fun k=>⟨h0,by omega,k⟩⟩
    generalize nd t (2 * n) = N at *
    obtain ⟨k,nm,y,pa,u⟩:=N;unfold aa.cells at gq;have bK : (0 : Int)≤((2 * n : Nat) : Int):=(by omega);refine jB (Ai (decide_eq_true h0) (Ai @af (Ai (decide_eq_true h1) (Ai (decide_eq_true h2) (Ai @e1 (Ai @h2 (Ai @bK @gq))))))) ?_;refine jI ?_;rw [hk];exact jW ⟨rfl,rfl⟩
   ·refine jB (Ai (decide_eq_true h0) (Ai @af (Ai (decide_eq_true h1) (Ai (decide_eq_false h2) @e1)))) ?_;refine jI ?_;rw [mZ (fun k=>by have:=k.2.1; omega)];exact jW ⟨rfl,rfl⟩
  ·refine jB (Ai (decide_eq_true h0) (Ai @af (decide_eq_false h1))) ?_;refine jI ?_;rw [mZ (fun k=>by have:=k.2.1; omega)];exact jW ⟨rfl,rfl⟩
 ·refine jB (decide_eq_false h0) ?_;refine jI ?_;rw [mZ (fun k=>h0 k.1)];exact jW ⟨rfl,rfl⟩
theorem Y7 {a b : List UInt8} (h : a = b) : (a == b) = true:=by simpa using h
theorem Y8 {a b : List UInt8} (h : a≠b) : (a == b) = false:=by simpa using h
theorem rb (t : List aa) (ht : t.length≤2 ^ 61) (a k : Nat) (hak : a + k < 2 ^ 61) (s : AS) : ah prog Γ 78 [ax t,.v (.int .i64 a),.v (.int .i64 (((a + k : Nat) : Int) - 1))] s (fun r s'=>r = .v (.int .i64 (dF (c7 t) a k))∧s' = s):=by
 refine ab func78 rfl ntmps78 results78 (by simp) ?_;have hm:=fun i s=>cn (Γ:=Γ) t ht i s;unfold ax at hm ⊢;generalize au aa.cells t = X at *
 refine jA ?_;refine jA ?_;refine wK fun K hK=>?_;refine jA ?_;refine ag ?_;refine aH (fun E s2=>∃ i : Nat,i≤k∧E 8 = .v (.int .i64 ((a + i : Nat) : Int))∧E 7 = .v (.int .i64 (dF (c7 t) a i))∧E 0 = .sl 5 t.length X .any∧E 2 = .v (.int .i64 (((a + k : Nat) : Int) - 1))∧s2 = s)
  (fun E _=>match E 8 with | .v (.int _ i)=>a + k - i.toNat | _=>0) ?_ ?_
 ·exact ⟨0,Nat.zero_le _,rfl,rfl,rfl,rfl,rfl⟩
 ·rintro E1 s2 ⟨i,hi,g8,g7,g0,g2,rfl⟩ -
  refine wK fun K2 aX=>?_;by_cases aO : i < k
  ·have h1 : decide (((a + i : Nat) : Int)≤((a + k : Nat) : Int) - 1) = true:=decide_eq_true (by omega);refine jB (Ai @g8 (Ai @g2 @h1)) ?_;refine jE ?_;refine ad ?_;refine aX _ _ ?_;clear aX K2;refine wK fun K3 bB=>?_;refine ag ?_;have bO : ∀ (E : Env),E 8 = .v (.int .i64 ((a + i : Nat) : Int))→E 7 = .v (.int .i64 (dF (c7 t) a (i + 1)))→E 0 = .sl 5 t.length X .any→E 2 = .v (.int .i64 (((a + k : Nat) : Int) - 1))→K3 E s2:=by
    intro E f8 f7 f0 f2;refine bB _ _ ?_;clear bB K3;refine jD (Ai @f8 (aQ (a + i) (by omega))) ?_;refine ⟨⟨i + 1,aO,rfl,f7,f0,f2,rfl⟩,?_⟩;simp only [g8,aG,↓reduceIte];omega
   clear bB;refine jS (Ai @g0 @g8) fun K hK=>?_;refine ae (hm _ _) ?_;rintro r s3 ⟨rfl,rfl⟩;have hc:=DV (c7 t) a i;by_cases hp : c7 t ((a + i : Nat) : Int)
   ·rw [decide_eq_true hp];refine jR hK ?_;clear hK K;refine jE ?_;refine jD (Ai @g7 (aQ (dF (c7 t) a i) (by omega))) ?_;refine bO _ g8 ?_ g0 g2;have : dF (c7 t) a (i + 1) = dF (c7 t) a i + 1:=(by simp only [dF]; rw [if_pos hp]);rw [this];simp only [aG,Nc,↓reduceIte]
   ·rw [decide_eq_false hp];refine jR hK ?_;clear hK K;refine jF ?_;refine ad ?_;refine bO _ g8 ?_ g0 g2;have : dF (c7 t) a (i + 1) = dF (c7 t) a i:=(by simp only [dF]; rw [if_neg hp]; omega);rw [this];simp only [aG,g7,Nc,↓reduceIte]
  ·have h1 : decide (((a + i : Nat) : Int)≤((a + k : Nat) : Int) - 1) = false:=decide_eq_false (by omega);refine jB (Ai @g8 (Ai @g2 @h1)) ?_;refine jF ?_;refine aB ?_;simp only [av,aq,if_true];refine hK _ _ ?_;clear hK aX K2 K;obtain rfl : i = k:=(by omega);refine jB @g7 ?_;exact jJ
theorem mQ (t : List aa) (ht : t.length≤2 ^ 61) (name : List UInt8) (s : AS) : ah prog Γ 80 [ax t,.v (.string ⟨name.toArray⟩)] s (fun r s'=>r = .v (.int .i64 (mL t name))∧s' = s):=by
 refine ab func80 rfl ntmps80 results80 (by simp) ?_;have hm:=fun i s=>cn (Γ:=Γ) t ht i s;have bN:=fun i (h : i < t.length)=>cT (t:=t) h;obtain ⟨Q,hQ⟩ : ∃ Q : Nat→Bool,Q = fun (j : Nat)=>decide (c7 t (j : Int)∧(nd t (2 * j)).name = name):=⟨_,rfl⟩;have bR : mL t name = dH Q (iS t - 0) 0:=(by rw [hQ]; rfl);unfold ax at hm ⊢;generalize au aa.cells t = X at *
 refine jA ?_;refine wK fun K hK=>?_;refine jA ?_;refine ag ?_;refine aH (fun E s2=>∃ i : Nat,i≤2 ^ 61∧dH Q (iS t - i) i = dH Q (iS t - 0) 0∧E 5 = .v (.int .i64 i)∧E 0 = .sl 5 t.length X .any∧E 1 = .v (.string ⟨name.toArray⟩)∧s2 = s)
  (fun E _=>match E 5 with | .v (.int _ i)=>iS t - i.toNat | _=>0) ?_ ?_
 ·exact ⟨0,by omega,rfl,rfl,rfl,rfl,rfl⟩
 ·rintro E1 s2 ⟨i,hi,hf,g7,g0,g1,rfl⟩ -
  refine wK fun K2 aX=>?_;by_cases aO : i < iS t
  ·have ik : 2 * i < t.length:=Ab.1 aO;refine jB (Ai @g7 (Ai @g0 (Ai (bw i (by omega)) (Ai @af (decide_eq_true ik))))) ?_;refine jE ?_;refine ad ?_;refine aX _ _ ?_;clear aX K2;refine wK fun K3 bB=>?_;refine ag ?_;obtain ⟨k,hk⟩ : ∃ k,iS t - i = k + 1:=⟨iS t - i - 1,by omega⟩;have ll : iS t - (i + 1) = k:=(by omega);rw [hk] at hf;have CD : Q i = decide (c7 t i∧(nd t (2 * i)).name = name):=(by rw [hQ]);have bO : ∀ (E : Env),Q i = false→E 5 = .v (.int .i64 i)→E 0 = .sl 5 t.length X .any→E 1 = .v (.string ⟨name.toArray⟩)→K3 E s2:=by
    intro E hq f7 f0 f1;refine bB _ _ ?_;clear bB K3;refine jD (Ai @f7 (aQ i (by omega))) ?_;refine ⟨⟨i + 1,by omega,by rw [ll,← hf,nK hq],rfl,f0,f1,rfl⟩,?_⟩;simp only [g7,aG,↓reduceIte];omega
   clear bB;have gq:=bN (2 * i) ik;generalize nd t (2 * i) = N at *
   obtain ⟨nk,nm,ny,iq,nu⟩:=N;unfold aa.cells at gq;simp only at CD;have bK : (0 : Int)≤((2 * i : Nat) : Int):=(by omega);refine jS (Ai @g0 @g7) fun K hK=>?_;refine ae (hm _ _) ?_;rintro r s3 ⟨rfl,rfl⟩;by_cases hp : c7 t (i : Int)
   ·rw [decide_eq_true hp];by_cases hn : nm = name
    ·rw [decide_eq_true ⟨hp,hn⟩] at CD;refine jV (Ai @g0 (Ai @g7 (Ai @g1 (Ai (bw i (by omega)) (Ai @af (Ai @ik (Ai @bK (Ai @gq (Y7 hn))))))))) hK ?_;clear hK K;refine jE ?_;refine jB @g7 ?_;refine jI ?_;rw [bR,← hf,nL CD];exact jW ⟨rfl,rfl⟩
    ·rw [decide_eq_false (fun q=>hn q.2)] at CD;refine jV (Ai @g0 (Ai @g7 (Ai @g1 (Ai (bw i (by omega)) (Ai @af (Ai @ik (Ai @bK (Ai @gq (Y8 hn))))))))) hK ?_;clear hK K;refine jF ?_;refine ad ?_;exact bO _ CD g7 g0 g1
   ·rw [decide_eq_false hp];rw [decide_eq_false (fun q=>hp q.1)] at CD;refine jR hK ?_;clear hK K;refine jF ?_;refine ad ?_;exact bO _ CD g7 g0 g1
  ·have ik : ¬ 2 * i < t.length:=fun h=>aO (Ab.2 h);refine jB (Ai @g7 (Ai @g0 (Ai (bw i (by omega)) (Ai @af (decide_eq_false ik))))) ?_;refine jF ?_;refine aB ?_;simp only [av,aq,if_true];refine hK _ _ ?_;clear hK aX K2 K;rw [show iS t - i = 0 by omega] at hf;refine jA ?_;refine jI ?_;rw [bR,← hf];exact jW ⟨rfl,rfl⟩
theorem F5 {t : List aa} : aA t↔aY t≠0∧(∀ i,i < t.length→vh t i)∧(aY t = 1∨0 < dF (c7 t) (aY t / 2) (aY t - aY t / 2)):=by
 unfold aA;constructor
 ·rintro ⟨a,b,c⟩;exact ⟨a,(FX a).2 b,c.imp id fun q=>by rw [pI (fq a)]; exact q⟩
 ·rintro ⟨a,b,c⟩;exact ⟨a,(FX a).1 b,c.imp id fun q=>by rw [← pI (fq a)]; exact q⟩
theorem cK (t : List aa) (ht : cV t) (s : AS) : ah prog Γ 70 [ax t] s (fun r s'=>r = .v (.bool (decide (aA t)))∧s' = s):=by
 refine ab func70 rfl ntmps70 results70 (by simp) ?_;have tT:=ht.1;have lN:=fun s=>dX (Γ:=Γ) t tT s;have hmc:=fun i s=>cn (Γ:=Γ) t tT i s;have xb:=fun name s=>mQ (Γ:=Γ) t tT name s;have Lg:=fun a k h s=>rb (Γ:=Γ) t tT a k h s;have hrn:=fun i s=>ke (Γ:=Γ) (nd t i) (ht.nd i).1 s;have Od:=fun i=>(ht.nd i).1;have bN:=fun i (h : i < t.length)=>cT (t:=t) h;have qF:=fL t;have MV : aY t≠0→t.length = 2 * aY t - 1:=fun h=>(dx.resolve_left h).2;have PN : aY t = 0→decide (aA t) = false:=fun h=>decide_eq_false fun k=>k.1 h;have PO : ∀ i,i < t.length→¬ vh t i→decide (aA t) = false:=fun i h1 h2=>decide_eq_false fun k=>h2 ((F5.1 k).2.1 i h1);have gC : aY t≠0→(∀ i,i < t.length→vh t i)→decide (aA t) = (((aY t : Int) == 1) || decide ((0 : Int) < (dF (c7 t) (aY t / 2) (aY t - aY t / 2) : Int))):=by
  intro h1 h2;rw [Bool.eq_iff_iff,decide_eq_true_iff,Bool.or_eq_true,beq_iff_eq,decide_eq_true_iff,F5];constructor
  ·rintro ⟨_,_,h3⟩;exact h3.imp (fun q=>by omega) (fun q=>by omega)
  ·intro h3;exact ⟨h1,h2,h3.imp (fun q=>by omega) (fun q=>by omega)⟩
 unfold ax at *
 generalize au aa.cells t = X at *
 generalize decide (aA t) = PM at *
 refine jA ?_;refine jK (lN _) ?_;rintro s1 rfl;refine wK fun K hK=>?_;by_cases hz : aY t = 0
 ·refine jB (Dq hz) ?_;refine jE ?_;refine jA ?_;refine jI ?_;rw [PN hz];exact jW ⟨rfl,rfl⟩
 ·refine jB (uI hz) ?_;refine jF ?_;refine ad ?_;refine hK _ _ ?_;clear hK K;have hlen:=MV hz;refine wK fun K hK=>?_;refine jA ?_;refine ag ?_;refine aH (fun E s2=>∃ i : Nat,i≤t.length∧(∀ j,j < i→vh t j)∧E 4 = .v (.int .i64 i)∧E 3 = .v (.int .i64 (aY t))∧E 0 = .sl 5 t.length X .any∧s2 = s1)
   (fun E _=>match E 4 with | .v (.int _ i)=>t.length - i.toNat | _=>0) ?_ ?_
  ·exact ⟨0,Nat.zero_le _,fun j h=>absurd h (Nat.not_lt_zero _),rfl,rfl,rfl,rfl⟩
  ·rintro E1 s2 ⟨i,hi,bT,g4,g3,g0,rfl⟩ -
   refine wK fun K2 aX=>?_;by_cases aO : i < t.length
   ·refine jB (Ai @g4 (Ai @g0 (Ai @af (decide_eq_true aO)))) ?_;refine jE ?_;refine ad ?_;refine aX _ _ ?_;clear aX K2;refine wK fun K3 bB=>?_;refine ag ?_;have Al:=PO i aO;have fX : vh t i↔(nd t i).right∧((nd t i).kind = 0∨((nd t i).kind = 1↔i % 2 = 0))∧((nd t i).kind = 1→mL t (nd t i).name = ((i / 2 : Nat) : Int))∧∀ u ∈ (nd t i).fF,(kY (i : Int)).1≤u∧u≤(kY (i : Int)).2∧c7 t u:=Iff.rfl;have gq:=bN i aO;have Tx:=hrn i;have xco:=Od i;have YZ:=fun s=>xb (nd t i).name s;have hun:=fun s=>oG (Γ:=Γ) (i : Int) s;generalize (kY (i : Int)).1 = ua at *
    generalize (kY (i : Int)).2 = ub at *
    generalize mL t (nd t i).name = NI at *
    generalize nd t i = N at *
    obtain ⟨nk,nm,ny,iq,nu⟩:=N;unfold aa.cells at gq Tx;simp only at YZ xco fX;unfold aC at gq Tx;have bK : (0 : Int)≤(i : Int):=(by omega);have qz : m8 (i : Int) 2 = ((i % 2 : Nat) : Int):=vK i 2;have Pt : ou .i64 (i : Int) 2 = ((i / 2 : Nat) : Int):=dR i (by omega);have bb : ((true != true) = false∧(false != false) = false)∧((true != false) = true∧(false != true) = true):=⟨⟨rfl,rfl⟩,rfl,rfl⟩;have bc : ((true == true) = true∧(false == false) = true)∧((true == false) = false∧(false == true) = false):=⟨⟨rfl,rfl⟩,rfl,rfl⟩;have bO : vh t i→∀ (E : Env),E 4 = .v (.int .i64 i)→E 3 = .v (.int .i64 (aY t))→E 0 = .sl 5 t.length X .any→K3 E s2:=by
     intro hg E f4 f3 f0;refine bB _ _ ?_;clear bB K3;refine jD (Ai @f4 (aQ i (by omega))) ?_;refine ⟨⟨i + 1,by omega,?_,rfl,f3,f0,rfl⟩,?_⟩
     ·intro j hj;by_cases e : j = i
      ·rw [e]; exact hg
      ·exact bT j (by omega)
     ·simp only [g4,aG,↓reduceIte];omega
    clear bB;refine az 5 (by decide) ?_;intro K5 js;refine jN (Ai @g0 (Ai @g4 (Ai @af (Ai @aO (Ai @bK @gq))))) ?_;intro o1 h1;refine js _ _ o1 _ rfl h1 ?_;clear js K5 h1;refine wK fun K4 fS=>?_;have h4 : (aa.right ⟨nk,nm,ny,iq,nu⟩∧(nk = 0∨(nk = 1↔i % 2 = 0)))→∀ (E : Env),E 4 = .v (.int .i64 i)→E 3 = .v (.int .i64 (aY t))→E 0 = .sl 5 t.length X .any→E 5 = .cX [.v (.int .i64 nk),.sl 1 nm.length (nm.map aw) .any,.v (.int .u64 ny),.sl 1 iq.length (iq.map aw) .any,.sl 1 nu.length (nu.map aE) .any]→K4 E s2:=by
     clear g4 g3 g0;rintro ⟨gr,gk⟩ E g4 g3 g0 g5;refine fS _ _ ?_;clear fS K4;refine wK fun K6 oE=>?_;have h6 : (nk = 1→NI = ((i / 2 : Nat) : Int))→∀ (E : Env),E 4 = .v (.int .i64 i)→E 3 = .v (.int .i64 (aY t))→E 0 = .sl 5 t.length X .any→E 5 = .cX [.v (.int .i64 nk),.sl 1 nm.length (nm.map aw) .any,.v (.int .u64 ny),.sl 1 iq.length (iq.map aw) .any,.sl 1 nu.length (nu.map aE) .any]→K6 E s2:=by
      clear g4 g3 g0 g5;intro gn E g4 g3 g0 g5;refine oE _ _ ?_;clear oE K6;refine jS @g4 fun K hK=>?_;refine ae (hun _) ?_;rintro r s3 ⟨rfl,rfl⟩;refine jR hK ?_;clear hK K;refine jA ?_;refine ag ?_;refine aH (fun E s4=>∃ k : Nat,k≤nu.length∧(∀ u ∈ nu.take k,ua≤u∧u≤ub∧c7 t u)∧E 8 = .v (.int .i64 k)∧E 6 = .v (.int .i64 ua)∧E 7 = .v (.int .i64 ub)∧E 4 = .v (.int .i64 i)∧E 3 = .v (.int .i64 (aY t))∧E 0 = .sl 5 t.length X .any∧E 5 = .cX [.v (.int .i64 nk),.sl 1 nm.length (nm.map aw) .any,.v (.int .u64 ny),.sl 1 iq.length (iq.map aw) .any,.sl 1 nu.length (nu.map aE) .any]∧s4 = s3)
       (fun E _=>match E 8 with | .v (.int _ i)=>nu.length - i.toNat | _=>0) ?_ ?_
      ·exact ⟨0,Nat.zero_le _,(by intro u hu; simp at hu),rfl,rfl,rfl,g4,g3,g0,g5,rfl⟩
      ·clear g4 g3 g0 g5;rintro E2 s4 ⟨k,hk,hku,g8,g6,g7,g4,g3,g0,g5,rfl⟩ -
       refine wK fun K7 Ep=>?_;by_cases ll : k < nu.length
       ·refine jB (Ai @g8 (Ai @g5 (Ai @af (decide_eq_true ll)))) ?_;refine jE ?_;refine ad ?_;refine Ep _ _ ?_;clear Ep K7;refine wK fun K8 Jn=>?_;refine ag ?_;have hgk : (0 : Int)≤(k : Int):=(by omega);have Ic:=dC ll;have M8 : nu[k] ∈ nu:=List.getElem_mem ll;have xcq : nu.take (k + 1) = nu.take k ++ [nu[k]]:=List.take_succ_eq_append_getElem ll;generalize nu[k] = u at *
        have Y9 : (ua≤u∧u≤ub∧c7 t u)→∀ (E : Env),E 8 = .v (.int .i64 k)→E 6 = .v (.int .i64 ua)→E 7 = .v (.int .i64 ub)→E 4 = .v (.int .i64 i)→E 3 = .v (.int .i64 (aY t))→E 0 = .sl 5 t.length X .any→E 5 = .cX [.v (.int .i64 nk),.sl 1 nm.length (nm.map aw) .any,.v (.int .u64 ny),.sl 1 iq.length (iq.map aw) .any,.sl 1 nu.length (nu.map aE) .any]→K8 E s4:=by
         intro hu E f8 f6 f7 f4 f3 f0 f5;refine Jn _ _ ?_;clear Jn K8;refine jD (Ai @f8 (aQ k (by omega))) ?_;refine ⟨⟨k + 1,by omega,?_,rfl,f6,f7,f4,f3,f0,f5,rfl⟩,?_⟩
         ·intro v hv;rw [xcq,List.mem_append,List.mem_singleton] at hv;rcases hv with hv | rfl
          ·exact hku v hv
          ·exact hu
         ·simp only [g8,aG,↓reduceIte];omega
        clear Jn;refine jB (Ai @g5 (Ai @g8 (Ai @af (Ai @ll (Ai @hgk (Ai @Ic @aE.eq_1)))))) ?_;by_cases u1 : u < ua
        ·refine jB (Ai @g6 (decide_eq_true u1)) ?_;refine jE ?_;refine jA ?_;refine jI ?_;rw [Al (fun q=>by have:=((fX.1 q).2.2.2 u M8).1; omega)];exact jW ⟨rfl,rfl⟩
        ·by_cases u2 : ub < u
         ·refine jB (Ai @g6 (Ai @g7 (Ai (decide_eq_false u1) (decide_eq_true u2)))) ?_;refine jE ?_;refine jA ?_;refine jI ?_;rw [Al (fun q=>by have:=((fX.1 q).2.2.2 u M8).2.1; omega)];exact jW ⟨rfl,rfl⟩
         ·refine jS (Ai @g6 (Ai @g7 (Ai @g0 (Ai (decide_eq_false u1) (decide_eq_false u2))))) fun K hK=>?_;refine ae (hmc _ _) ?_;rintro r s5 ⟨rfl,rfl⟩;by_cases u3 : c7 t u
          ·rw [decide_eq_true u3];refine jR hK ?_;clear hK K;refine jF ?_;refine ad ?_;simp only [aq,av,if_true,if_false];exact Y9 ⟨by omega,by omega,u3⟩ _ g8 g6 g7 g4 g3 g0 g5
          ·rw [decide_eq_false u3];refine jR hK ?_;clear hK K;refine jE ?_;refine jA ?_;refine jI ?_;rw [Al (fun q=>u3 ((fX.1 q).2.2.2 u M8).2.2)];exact jW ⟨rfl,rfl⟩
       ·refine jB (Ai @g8 (Ai @g5 (Ai @af (decide_eq_false ll)))) ?_;refine jF ?_;refine aB ?_;simp only [av,aq,if_true,if_false];rw [List.take_of_length_le (by omega)] at hku;exact bO (fX.2 ⟨gr,gk,gn,hku⟩) _ g4 g3 g0
     clear oE;by_cases k1 : nk = 1
     ·refine jS (Ai @g5 (Ai (gB k1) @g0)) fun K hK=>?_;refine ae (YZ _) ?_;rintro r s3 ⟨rfl,rfl⟩;by_cases hn : NI = ((i / 2 : Nat) : Int)
      ·refine jV (Ai @g4 (Ai @lG (Ai @Pt (eqI hn)))) hK ?_;clear hK K;refine jF ?_;refine ad ?_;exact h6 (fun _=>hn) _ g4 g3 g0 g5
      ·refine jV (Ai @g4 (Ai @lG (Ai @Pt (O5 hn)))) hK ?_;clear hK K;refine jE ?_;refine jA ?_;refine jI ?_;rw [Al (fun q=>hn ((fX.1 q).2.2.1 k1))];exact jW ⟨rfl,rfl⟩
     ·refine jB (Ai @g5 (e8 k1)) ?_;refine jF ?_;refine ad ?_;exact h6 (fun q=>absurd q k1) _ g4 g3 g0 g5
    clear fS;refine jQ fun K hK=>?_;refine ae (Tx _) ?_;rintro r s3 ⟨rfl,rfl⟩;by_cases gr : aa.right ⟨nk,nm,ny,iq,nu⟩
    ·rw [decide_eq_true gr];by_cases k0 : nk = 0
     ·refine jV (eqI k0) hK ?_;clear hK K;refine jF ?_;refine ad ?_;exact h4 ⟨gr,.inl k0⟩ _ g4 g3 g0 rfl
     ·by_cases k1 : nk = 1
      ·by_cases kp : i % 2 = 0
       ·have t2 : (m8 (i : Int) 2 == 0) = true:=(by rw [qz]; exact gB (by omega));simp only [↓DM,cw,DX,Nz,↓DN,Qa,Qb,Qc,Qd,Qe,Qf,Qg,Qh,reduceCtorEq,↓reduceIte,Na,Nb,Nc,Nk,Nf,Ng,Nh,Za,Zb,Zc,TT,O5 k0,gB k1,g4,lG,t2,bb,bc];refine hK _ _ ?_;clear hK K;refine jF ?_;refine ad ?_;exact h4 ⟨gr,.inr ⟨fun _=>kp,fun _=>k1⟩⟩ _ g4 g3 g0 rfl
       ·have t2 : (m8 (i : Int) 2 == 0) = false:=(by rw [qz]; exact e8 (by omega));simp only [↓DM,cw,DX,Nz,↓DN,Qa,Qb,Qc,Qd,Qe,Qf,Qg,Qh,reduceCtorEq,↓reduceIte,Na,Nb,Nc,Nk,Nf,Ng,Nh,Za,Zb,Zc,TT,O5 k0,gB k1,g4,lG,t2,bb,bc];refine hK _ _ ?_;clear hK K;refine jE ?_;refine jA ?_;refine jI ?_;rw [Al (fun q=>by rcases (fX.1 q).2.1 with h | h; exact k0 h; exact kp (h.1 k1))];exact jW ⟨rfl,rfl⟩
      ·by_cases kp : i % 2 = 0
       ·have t2 : (m8 (i : Int) 2 == 0) = true:=(by rw [qz]; exact gB (by omega));simp only [↓DM,cw,DX,Nz,↓DN,Qa,Qb,Qc,Qd,Qe,Qf,Qg,Qh,reduceCtorEq,↓reduceIte,Na,Nb,Nc,Nk,Nf,Ng,Nh,Za,Zb,Zc,TT,O5 k0,e8 k1,g4,lG,t2,bb,bc];refine hK _ _ ?_;clear hK K;refine jE ?_;refine jA ?_;refine jI ?_;rw [Al (fun q=>by rcases (fX.1 q).2.1 with h | h; exact k0 h; exact k1 (h.2 kp))];exact jW ⟨rfl,rfl⟩
       ·have t2 : (m8 (i : Int) 2 == 0) = false:=(by rw [qz]; exact e8 (by omega));simp only [↓DM,cw,DX,Nz,↓DN,Qa,Qb,Qc,Qd,Qe,Qf,Qg,Qh,reduceCtorEq,↓reduceIte,Na,Nb,Nc,Nk,Nf,Ng,Nh,Za,Zb,Zc,TT,O5 k0,e8 k1,g4,lG,t2,bb,bc];refine hK _ _ ?_;clear hK K;refine jF ?_;refine ad ?_;exact h4 ⟨gr,.inr ⟨fun h=>absurd h k1,fun h=>absurd h kp⟩⟩ _ g4 g3 g0 rfl
    ·rw [decide_eq_false gr];refine jR hK ?_;clear hK K;refine jE ?_;refine jA ?_;refine jI ?_;rw [Al (fun q=>gr (fX.1 q).1)];exact jW ⟨rfl,rfl⟩
   ·refine jB (Ai @g4 (Ai @g0 (Ai @af (decide_eq_false aO)))) ?_;refine jF ?_;refine aB ?_;simp only [av,aq,if_true];refine hK _ _ ?_;clear hK aX K2 K;have MW : ∀ j,j < t.length→vh t j:=fun j h=>bT j (by omega);have bR:=gC hz MW;by_cases h1 : aY t = 1
    ·have e1:=gB (show ((aY t : Nat) : Int) = 1 by omega);rw [e1] at bR;refine jB (Ai @g3 @e1) ?_;refine jI ?_;rw [bR];exact jW ⟨rfl,rfl⟩
    ·have e1:=e8 (show ¬ ((aY t : Nat) : Int) = 1 by omega);rw [e1,Bool.false_or] at bR;have e2 : ou .i64 (aY t : Int) 2 = ((aY t / 2 : Nat) : Int):=dR _ (by omega);have e3 : ed .i64 (aY t : Int) 1 = (((aY t / 2 + (aY t - aY t / 2) : Nat)) : Int) - 1:=(by rw [b6 (by omega)]; omega);have hcm:=fun s=>Lg (aY t / 2) (aY t - aY t / 2) (by omega) s;generalize (((aY t / 2 + (aY t - aY t / 2) : Nat)) : Int) - 1 = LL at *
     refine jS (Ai @g3 (Ai @e1 (Ai @lG (Ai @e2 (Ai @e3 @g0))))) fun K hK=>?_;refine ae (hcm _) ?_;rintro r s3 ⟨rfl,rfl⟩;refine jR hK ?_;clear hK K;refine jI ?_;rw [bR];exact jW ⟨rfl,rfl⟩
theorem Am (s : AS) : ah prog Γ 39 [bL] s (fun r s'=>r = ak [] .any∧s' = s):=by
 refine ab func39 rfl ntmps39 results39 (by simp) ?_;unfold bL;refine jA ?_;refine wK fun K hK=>?_;refine jA ?_;refine jE ?_;refine jA ?_;refine jI ?_;exact ⟨_,_,AV.aP,AS.le.refl _,rfl,rfl⟩
theorem BG (l : List UInt8) (s : AS) (hl : l.length≤2 ^ 45) : ah prog Γ 39 [ak l .no] s (fun r s'=>r = ak l .any∧s' = s):=by
 refine ab func39 rfl ntmps39 results39 (by simp) ?_;unfold ak;refine jA ?_;refine wK fun K hK=>?_;refine jB @and_false ?_;refine jF ?_;refine ad ?_;refine hK _ _ ?_;clear hK K;by_cases h0 : l.length = 0
 ·have xc : l = []:=List.eq_nil_of_length_eq_zero h0;subst xc;refine jA ?_;refine jI ?_;exact ⟨_,s,AV.db,AS.le.refl s,rfl,rfl⟩
 ·refine jS @h0 fun K hK=>?_;refine ⟨by omega,by omega,fun t ht=>hK _ _ ?_⟩;clear hK K;refine jI ?_;exact ⟨_,s,AV.db,AS.bC (AS.le.refl s) ht 0,rfl,rfl⟩
theorem eF (l : List UInt8) (s : AS) (hl : l.length≤2 ^ 45) : ah prog Γ 39 [ak l .any] s (fun r s'=>r = ak l .any∧s' = s) :=
 ah.any (pre:=[]) (post:=[]) (fun e=>by subst e; exact Am s) (BG l s hl)
theorem qR (hG : Γ 3 = eW.map nj) (t : List aa) (ht : cV t) (s : AS) : ah prog Γ 86 [ax t] s (fun r s'=>r = .v (.int .i64 (if aA t then aY t else 0 : Nat))∧s' = s):=by
 refine ab func86 rfl ntmps86 results86 (by simp) ?_;have hr:=fun s=>cW (Γ:=Γ) hG t ht s;have hl:=fun s=>eY (Γ:=Γ) t ht.1 s;unfold ax at *
 generalize au aa.cells t = X at *
 refine jA ?_;refine wK fun K hK=>?_;refine jQ fun K hK=>?_;refine ae (hr _) ?_;rintro r s1 ⟨rfl,rfl⟩;by_cases h : aA t
 ·rw [decide_eq_true h];refine jR hK ?_;clear hK K;refine jF ?_;refine ad ?_;refine hK _ _ ?_;clear hK K;refine jK (hl _) ?_;rintro s2 rfl;refine jI ?_;rw [if_pos h];exact jW ⟨rfl,rfl⟩
 ·rw [decide_eq_false h];refine jR hK ?_;clear hK K;refine jE ?_;refine jA ?_;refine jI ?_;rw [if_neg h];exact jW ⟨rfl,rfl⟩
theorem F6 (a b : AV) : ig 2 [a,b] = [a,b]:=rfl
theorem tp {t : List aa} (h : aA t) (i : Int) : c7 t i↔bx t i:=fq h.1 i
theorem oT (t : List aa) (ht : cV t) (s : AS) : ah prog Γ 56 [ax t] s (fun r s'=>r = MY (oS t)∧s' = s):=by
 refine ab func56 rfl ntmps56 results56 (by simp) ?_;have hr:=fun s=>cK (Γ:=Γ) t ht s;have hm:=fun i s=>cn (Γ:=Γ) t ht.1 i s;have bN:=fun i (h : i < t.length)=>cT (t:=t) h;have mZ : ¬ aA t→oS t = []:=fun h=>if_neg h;have pF : aA t→oS t = oR t (aY t):=fun h=>if_pos h;obtain ⟨MT,hMT⟩ : ∃ q,q = oS t:=⟨_,rfl⟩;rw [← hMT];have qF:=fL t;unfold ax at *
 generalize au aa.cells t = X at *
 refine jA ?_;refine jA ?_;refine wK fun K hK=>?_;refine jQ fun K hK=>?_;refine ae (hr _) ?_;rintro r s1 ⟨rfl,rfl⟩;by_cases h : aA t
 ·have hlen:=h.len.1;have ei:=h.len.2.le;have Zd:=tp h;rw [decide_eq_true h];obtain ⟨M,hM⟩ : ∃ M,M = aY t:=⟨_,rfl⟩;rw [← hM] at pF hlen ei qF;refine jR hK ?_;clear hK K;refine jF ?_;refine ad ?_;refine hK _ _ ?_;clear hK K;refine wK fun K hK=>?_;refine jA ?_;refine ag ?_;refine aH (fun E s2=>∃ (i : Nat) (x : AV),i≤M∧E 4 = .v (.int .i64 i)∧E 0 = .sl 5 t.length X .any∧E 3 = x∧cU 2 s1 s2 x (oR t i).length (au ia.cells (oR t i))∧s1.le s2)
   (fun E _=>match E 4 with | .v (.int _ i)=>M - i.toNat | _=>0) ?_ ?_
  ·exact ⟨0,_,Nat.zero_le _,rfl,rfl,rfl,cU.nil _ _ _,AS.le.refl _⟩
  ·rintro E1 s2 ⟨i,x,hi,g4,g0,g3,hx,hle⟩ -
   refine wK fun K2 aX=>?_;by_cases aO : i < M
   ·have UA : 2 * i < t.length:=(by omega);refine jB (Ai @g4 (Ai @g0 (Ai (bw i (by omega)) (Ai @af (decide_eq_true UA))))) ?_;refine jE ?_;refine ad ?_;refine aX _ _ ?_;clear aX K2;refine wK fun K3 bB=>?_;refine ag ?_;have dc : oR t (i + 1) = oR t i ++ if bx t (i : Int) then [⟨(i : Int),(nd t (2 * i)).name⟩] else []:=rfl
    have hll:=FY t i;have gq:=bN (2 * i) UA;generalize nd t (2 * i) = N at *
    obtain ⟨nk,nm,ny,iq,nu⟩:=N;unfold aa.cells at gq;simp only at dc;have bK : (0 : Int)≤((2 * i : Nat) : Int):=(by omega);have bO : ∀ (E : Env) (s3 : AS) (x3 : AV),E 4 = .v (.int .i64 i)→E 0 = .sl 5 t.length X .any→E 3 = x3→cU 2 s1 s3 x3 (oR t (i + 1)).length (au ia.cells (oR t (i + 1)))→s1.le s3→K3 E s3:=by
     intro E s3 x3 f4 f0 f3 fx vY;refine bB _ _ ?_;clear bB K3;refine jD (Ai @f4 (aQ i (by omega))) ?_;refine ⟨⟨i + 1,x3,by omega,rfl,f0,f3,fx,vY⟩,?_⟩;simp only [g4,aG,↓reduceIte];omega
    clear bB;generalize oR t i = L at *
    generalize oR t (i + 1) = L1 at *
    refine jS (Ai @g0 @g4) fun K hK=>?_;refine ae (hm _ _) ?_;rintro r s3 ⟨rfl,rfl⟩;by_cases hp : bx t (i : Int)
    ·rw [if_pos hp] at dc;rw [decide_eq_true ((Zd _).2 hp)];refine jR hK ?_;clear hK K;refine jE ?_;have JL : au ia.cells L1 = au ia.cells L ++ [.v (.int .i64 (i : Int)),.sl 1 nm.length (nm.map aw) .any]:=(by rw [dc]; exact vg _ _);have yA : L1.length = L.length + 1:=(by rw [dc]; simp);rw [JL,yA] at bO;rcases hx with ⟨rfl,lI,rV⟩ | ⟨t',e,rfl,lq,iO⟩
     ·refine wE fun K hK=>?_;simp only [↓DN,Qa,Qb,Qc,Qd,Qe,Qf,Qg,Qh,reduceCtorEq,↓reduceIte,Na,Nb,Nc,Nk,Nf,Ng,Nh,Za,Zb,Zc,TT,g0,g3,g4,bw i (by omega),af,UA,bK,gq,bL,F6];intro t' lq;rw [lI,rV] at bO;refine hK _ _ ?_;simp only [aq,av,if_true,if_false];refine bO _ _ (.sl 2 1 [.v (.int .i64 (i : Int)),.sl 1 nm.length (nm.map aw) .any] (.own t' 0)) g4 g0 rfl (.inr ⟨t',0,rfl,by simp [AS.cd],bd hle lq⟩) (AS.bC hle (bd hle lq) 0)
     ·refine jU (Ai @g0 (Ai @g3 (Ai @g4 (Ai (bw i (by omega)) (Ai @af (Ai @UA (Ai @bK (Ai @gq (Ai @F6 @lq))))))))) fun K hK=>?_;refine ⟨by omega,by omega,hK _ _ ?_⟩;simp only [aq,av,if_true,if_false];refine bO _ _ (.sl 2 (L.length + 1) (au ia.cells L ++ [.v (.int .i64 (i : Int)),.sl 1 nm.length (nm.map aw) .any]) (.own t' (e + 1))) g4 g0 rfl (.inr ⟨t',e + 1,rfl,by simp [AS.cd],iO⟩) (AS.bC hle iO (e + 1))
    ·rw [if_neg hp,List.append_nil] at dc;rw [decide_eq_false (fun q=>hp ((Zd _).1 q))];refine jR hK ?_;clear hK K;refine jF ?_;refine ad ?_;simp only [aq,av,if_true,if_false];rw [dc] at bO;exact bO _ _ _ g4 g0 g3 hx hle
   ·have UA : ¬ 2 * i < t.length:=(by omega);refine jB (Ai @g4 (Ai @g0 (Ai (bw i (by omega)) (Ai @af (decide_eq_false UA))))) ?_;refine jF ?_;refine aB ?_;simp only [av,aq,if_true];refine hK _ _ ?_;clear hK aX K2 K;obtain rfl : i = M:=(by omega);have hw:=hx.aL;refine jB @g3 ?_;refine jI ?_;refine ⟨_,_,hw,hle,?_,rfl⟩;rw [hMT,pF h];rfl
 ·rw [decide_eq_false h];refine jR hK ?_;clear hK K;refine jE ?_;refine jA ?_;refine jI ?_;refine ⟨_,_,AV.aP (sz:=2),AS.le.refl _,?_,rfl⟩;rw [hMT,mZ h];rfl
theorem M9 {α : Type} {a b : List α} {i : Nat} (ha : i < a.length) (hb : i < b.length) (h : a.take i = b.take i) (he : a[i] = b[i]) : a.take (i + 1) = b.take (i + 1):=by
 rw [List.take_succ_eq_append_getElem ha,List.take_succ_eq_append_getElem hb,h,he]
theorem Ie {α : Type} {a b : List α} {i : Nat} (hl : a.length = b.length) (ha : ¬ i < a.length) (h : a.take i = b.take i) : a = b:=by
 rwa [List.take_of_length_le (by omega),List.take_of_length_le (by omega)] at h
theorem vj (a b : List aa) (ha : cV a) (s : AS) : ah prog Γ 12 [ax a,ax b] s (fun r s'=>r = .v (.bool (decide (a = b)))∧s' = s):=by
 refine ab func12 rfl ntmps12 results12 (by simp) ?_;have Fx:=fun i (h : i < a.length)=>dB (c:=aa.cells) (k:=5) (fun _=>rfl) h;have uL:=fun i (h : i < b.length)=>dB (c:=aa.cells) (k:=5) (fun _=>rfl) h;have hal:=ha.1;unfold ax;generalize au aa.cells a = XA at *
 generalize au aa.cells b = XB at *
 refine jA ?_;refine wK fun K hK=>?_;by_cases hl : a.length = b.length
 ·refine jB (pU hl) ?_;refine jF ?_;refine ad ?_;refine hK _ _ ?_;clear hK K;refine wK fun K hK=>?_;refine jA ?_;refine ag ?_;refine aH (fun E s2=>∃ i : Nat,i≤a.length∧E 5 = .v (.int .i64 i)∧E 0 = .sl 5 a.length XA .any∧E 1 = .sl 5 b.length XB .any∧a.take i = b.take i∧s2 = s)
   (fun E _=>match E 5 with | .v (.int _ i)=>a.length - i.toNat | _=>0) ?_ ?_
  ·exact ⟨0,Nat.zero_le _,rfl,rfl,rfl,by simp,rfl⟩
  ·rintro E1 s2 ⟨i,hi,g5,g0,g1,bT,rfl⟩ -
   refine wK fun K2 aX=>?_;by_cases aO : i < a.length
   ·refine jB (Ai @g5 (Ai @g0 (Ai @af (decide_eq_true aO)))) ?_;refine jE ?_;refine ad ?_;refine aX _ _ ?_;clear aX K2;refine wK fun K3 bB=>?_;refine ag ?_;have ik : i < b.length:=(by omega);have F7:=Fx i aO;have vd:=uL i ik;have bK : (0 : Int)≤(i : Int):=(by omega);have pF : a[i] = b[i]→a.take (i + 1) = b.take (i + 1):=M9 aO ik bT;have mZ : a[i]≠b[i]→decide (a = b) = false:=fun h=>decide_eq_false fun q=>h (by subst q; rfl);have pz:=fun s=>pY (Γ:=Γ) a[i] b[i] (ha.2 _ (List.getElem_mem aO)).1 s;generalize a[i] = y1 at *
    generalize b[i] = y2 at *
    obtain ⟨P,hP⟩ : ∃ P,P = decide (y1 = y2):=⟨_,rfl⟩;rw [← hP] at pz;obtain ⟨nk,nm,ny,iq,nu⟩:=y1;obtain ⟨mk,mm,my,mpa,mu⟩:=y2;unfold aa.cells at F7 vd pz;simp only at F7 vd pz;unfold aC at F7 vd pz;refine aZ T.mixed [8] (by kernel_rfl) ?_;intro K hK;refine jN (Ai @g5 (Ai @g0 (Ai @g1 (Ai @af (Ai @aO (Ai @ik (Ai @bK (Ai @F7 @vd)))))))) ?_;refine ae (pz _) ?_;rintro r s3 ⟨rfl,rfl⟩;cases P with
    | true =>
     refine jR hK ?_;clear hK K;refine jF ?_;refine ad ?_;simp only [aq,av,if_true,if_false];refine bB _ _ ?_;clear bB K3;refine jD (Ai @g5 (aQ i (by omega))) ?_;refine ⟨⟨i + 1,by omega,rfl,g0,g1,pF (of_decide_eq_true hP.symm),rfl⟩,?_⟩;simp only [g5,aG,↓reduceIte];omega
    | false =>
     refine jR hK ?_;clear hK K;refine jE ?_;refine jA ?_;refine jI ?_;rw [mZ (of_decide_eq_false hP.symm)];exact jW ⟨rfl,rfl⟩
   ·refine jB (Ai @g5 (Ai @g0 (Ai @af (decide_eq_false aO)))) ?_;refine jF ?_;refine aB ?_;simp only [av,aq,if_true];refine hK _ _ ?_;clear hK aX K2 K;have tO : a = b:=Ie hl aO bT;refine jA ?_;refine jI ?_;rw [decide_eq_true tO];exact jW ⟨rfl,rfl⟩
 ·refine jB (xz hl) ?_;refine jE ?_;refine jA ?_;refine jI ?_;rw [decide_eq_false (fun q=>hl (by rw [q]))];exact jW ⟨rfl,rfl⟩
abbrev wV (x : Nat) : AV:=.v (.int .u32 (x : Int))
theorem vk (a : Nat) (h : a < 32) : JB .i64 (a : Int) = -(a : Int):=by
 rw [JB,IntWalk.i64_in _ (by omega)];omega
theorem Kv (a : Nat) (h0 : 0 < a) (h : a < 32) : A9 .u64 (ee .u64 (-(a : Int))) 31 = ((32 - a : Nat) : Int):=by
 have e : ee .u64 (-(a : Int)) = ((18446744073709551616 - a : Nat) : Int):=by
  rw [ee,mj rfl];simp only [IntKind.bits];omega
 rw [e,show (31 : Int) = ((31 : Nat) : Int) from rfl,Lx rfl _ _ (by simp only [IntKind.bits]; omega) (by decide)];congr 1;have : (18446744073709551616 - a) &&& 31 = (18446744073709551616 - a) % 2 ^ 5:=Nat.and_two_pow_sub_one_eq_mod _ 5;rw [this];omega
theorem re (a : Nat) : ¬ ((a : Nat) : Int) < 0:=by omega
theorem P1 (a : Nat) (h0 : 0 < a) (h : a < 32) : ed .u64 32 ((32 - a : Nat) : Int) = ((a : Nat) : Int):=by
 have:=JW (k:=.u64) rfl 32 (32 - a) (by omega) (by decide);rw [show (32 : Int) = ((32 : Nat) : Int) from rfl,this];congr 1;omega
theorem P2 (x a : Nat) (hx : x < 4294967296) (h0 : 0 < a) (h : a < 32) : Li .u32 (oY .u32 (x : Int) ((32 - a : Nat) : Int)) (lW .u32 (x : Int) ((a : Nat) : Int)) = ((Sha.nv x a : Nat) : Int):=by
 rw [Hk rfl,vJ];rw [QA rfl _ _ (Nat.mod_lt _ (by decide)) (by simp only [IntKind.bits]; exact Nat.lt_of_le_of_lt (Nat.div_le_self _ _) hx)];rw [Sha.nv,Nat.or_comm];simp only [IntKind.bits];rw [Nat.min_eq_left (by omega),Nat.min_eq_left (by omega)]
theorem qf (a b : Nat) (ha : a < 4294967296) (hb : b < 4294967296) : Lj .u32 (a : Int) (b : Int) = ((a ^^^ b : Nat) : Int):=R4 rfl a b ha hb
theorem BH (a b : Nat) (ha : a < 4294967296) (hb : b < 4294967296) : A9 .u32 (a : Int) (b : Int) = ((a &&& b : Nat) : Int):=Lx rfl a b ha hb
theorem Ze (a b : Nat) (ha : a < 4294967296) (hb : b < 4294967296) : Li .u32 (a : Int) (b : Int) = ((a ||| b : Nat) : Int):=QA rfl a b ha hb
theorem wI (a b : Nat) : jn .u32 (a : Int) (b : Int) = ((Sha.ft a b : Nat) : Int):=R2 rfl a b
theorem Zf (a : Nat) (ha : a < 4294967296) : Lk .u32 (a : Int) = ((4294967295 - a : Nat) : Int):=R5 rfl a ha
theorem BI (a c : Nat) (hc : c < 32) : lW .u32 (a : Int) ((c : Nat) : Int) = ((a / 2 ^ c : Nat) : Int):=by
 rw [vJ];simp only [IntKind.bits];rw [Nat.min_eq_left (by omega)]
theorem Nd (a c : Nat) (hc : c < 32) : oY .u32 (a : Int) ((c : Nat) : Int) = (((a * 2 ^ c) % 4294967296 : Nat) : Int):=by
 rw [Hk rfl];simp only [IntKind.bits];rw [Nat.min_eq_left (by omega)]
theorem mR (x a : Nat) (hx : x < 4294967296) (h0 : 0 < a) (h : a < 32) (s : AS) :
  ah prog Γ 211 [wV x,.v (.int .i64 (-(a : Int)))] s (fun r s'=>r = wV (Sha.nv x a)∧s' = s):=by
 refine ab func211 rfl ntmps211 results211 (by simp) ?_;refine jA ?_;refine jB (Kv a h0 h) ?_;refine jB (Ai @re (Ai (P1 a h0 h) (P2 x a hx h0 h))) ?_;refine jI ?_;exact ⟨_,s,AV.aL.refl _,AS.le.refl s,rfl,rfl⟩
theorem vl (x a b c : Nat) (hx : x < 4294967296) (ha0 : 0 < a) (ha : a < 32) (YK : 0 < b) (hb : b < 32) (T5 : 0 < c) (hc : c < 32) (s : AS) :
  ah prog Γ 165 [wV x,.v (.int .i64 (a : Int)),.v (.int .i64 (b : Int)),.v (.int .i64 (c : Int))] s (fun r s'=>r = wV (Sha.M4 x a b c)∧s' = s):=by
 refine ab func165 rfl ntmps165 results165 (by simp) ?_;refine jA ?_;refine jS (vk a ha) fun K hK=>?_;refine ae (mR x a hx ha0 ha _) ?_;rintro r s1 ⟨rfl,rfl⟩;refine jN (vk b hb) ?_;refine ae (mR x b hx YK hb _) ?_;rintro r s2 ⟨rfl,rfl⟩;refine jN (Ai (vk c hc) (qf _ _ (Sha.cM a hx) (Sha.cM b hx))) ?_;refine ae (mR x c hx T5 hc _) ?_;rintro r s3 ⟨rfl,rfl⟩;refine jV (qf _ _ (Nat.xor_lt_two_pow (n:=32) (Sha.cM a hx) (Sha.cM b hx)) (Sha.cM c hx)) hK ?_;clear hK K;exact jJ
theorem sP (x a b c : Nat) (hx : x < 4294967296) (ha0 : 0 < a) (ha : a < 32) (YK : 0 < b) (hb : b < 32) (T5 : 0 < c) (hc : c < 32) (s : AS) :
  ah prog Γ 210 [wV x,.v (.int .i64 (a : Int)),.v (.int .i64 (b : Int)),.v (.int .i64 (c : Int))] s (fun r s'=>r = wV (Sha.D3 x a b c)∧s' = s):=by
 refine ab func210 rfl ntmps210 results210 (by simp) ?_;refine jA ?_;refine aZ T.mixed [3,7] (by kernel_rfl) ?_;intro K hK;refine jN (vk a ha) ?_;refine ae (mR x a hx ha0 ha _) ?_;rintro r s1 ⟨rfl,rfl⟩;refine jN (vk b hb) ?_;refine ae (mR x b hx YK hb _) ?_;rintro r s2 ⟨rfl,rfl⟩;refine jV (Ai (qf _ _ (Sha.cM a hx) (Sha.cM b hx)) (Ai @re (Ai (BI x c hc) (qf _ _ (Nat.xor_lt_two_pow (n:=32) (Sha.cM a hx) (Sha.cM b hx)) (Nat.lt_of_le_of_lt (Nat.div_le_self x (2 ^ c)) hx))))) hK ?_;clear hK K;exact jJ
theorem Kw (a : Nat) (h : a < 32) : ed .i64 32 ((a : Nat) : Int) = ((32 - a : Nat) : Int):=by
 rw [b6 (by omega)];omega
theorem Kx (x a : Nat) (hx : x < 4294967296) (h0 : 0 < a) (h : a < 32) : Li .u32 (lW .u32 (x : Int) ((a : Nat) : Int)) (oY .u32 (x : Int) ((32 - a : Nat) : Int)) = ((Sha.nv x a : Nat) : Int):=by
 rw [Nd x (32 - a) (by omega),BI x a h,Ze _ _ (Nat.lt_of_le_of_lt (Nat.div_le_self _ _) hx) (Nat.mod_lt _ (by decide)),Sha.nv]
theorem eC (x a : Nat) (hx : x < 4294967296) (h0 : 0 < a) (h : a < 32) (s : AS) :
  ah prog Γ 108 [wV x,.v (.int .i64 (a : Int))] s (fun r s'=>r = wV (Sha.nv x a)∧s' = s):=by
 refine ab func108 rfl ntmps108 results108 (by simp) ?_;refine jA ?_;refine aZ T.mixed [] (by kernel_rfl) ?_;intro K hK;refine jV (Ai @re (Ai (Kw a h) (Kx x a hx h0 h))) hK ?_;clear hK K;refine jI ?_;exact ⟨_,s,AV.aL.refl _,AS.le.refl s,rfl,rfl⟩
theorem Ig (s : AS) :
  ah prog Γ 106 [] s (fun r s'=>r = .sl 1 64 (Sha.K.map wV) .no∧s' = s):=by
 refine ab func106 rfl ntmps106 results106 (by simp) ?_;refine jA ?_;refine jA ?_;refine jI ?_;exact ⟨_,s,AV.Oz rfl,AS.le.refl s,rfl,rfl⟩
def row (c : List UInt8) (i : Nat) : List AV:=(Sha.m6 c i).map wV ++ List.replicate (64 - i) (wV 0)
theorem row_zero (c : List UInt8) : row c 0 = List.replicate 64 (wV 0):=rfl
theorem F8 (c : List UInt8) : row c 64 = (Sha.m6 c 64).map wV:=by simp [row]
theorem cL (c : List UInt8) (i : Nat) (h : i≤64) : (row c i).length = 64:=by
 simp [row,Sha.da]; omega
theorem drop_cons {α : Type} (l : List α) (j : Nat) (x : α) (h : l[j]? = some x) : List.drop j l = x :: List.drop (j + 1) l:=by
 obtain ⟨h1,h2⟩:=List.getElem?_eq_some_iff.1 h;rw [List.drop_eq_getElem_cons h1,h2]
theorem kL (c : List UInt8) (i j : Nat) (h : j < i) : List.drop j (row c i) = wV ((Sha.m6 c i).getD j 0) :: List.drop (j + 1) (row c i):=by
 apply drop_cons;have hl : j < (Sha.m6 c i).length:=(by rw [Sha.da]; exact h);rw [row,List.getElem?_append_left (by simpa using hl),List.getElem?_map,List.getElem?_eq_getElem hl];simp [List.getD,List.getElem?_eq_getElem hl]
def rowP (c : List UInt8) (i v : Nat) : List AV:=(row c i).set i (wV v)
theorem Ky (c : List UInt8) (i : Nat) (h : i < 64) : rowP c i 0 = row c i:=by
 unfold rowP;apply List.ext_getElem?;intro k;by_cases e : k = i
 ·subst e;rw [List.getElem?_set_self (by rw [cL c k (by omega)]; exact h),row,List.getElem?_append_right (by simp [Sha.da])];simp [Sha.da,List.getElem?_replicate];omega
 ·rw [List.getElem?_set_ne (by omega)]
theorem Kz (c : List UInt8) (i v : Nat) (h : i < 64) : List.drop i (rowP c i v) = wV v :: List.drop (i + 1) (rowP c i v):=by
 apply drop_cons;rw [rowP,List.getElem?_set_self (by rw [cL c i (by omega)]; exact h)]
theorem Ni (c : List UInt8) (i v u : Nat) : (rowP c i v).set i (wV u) = rowP c i u:=by simp [rowP]
theorem Nj (c : List UInt8) (i v : Nat) (h : i≤64) : (rowP c i v).length = 64:=by simp [rowP,cL c i h]
theorem yC (c : List UInt8) (i : Nat) (h : i < 64) : (row c i).set i (wV (Sha.word c (Sha.m6 c i) i)) = row c (i + 1):=by
 apply List.ext_getElem?;intro k;by_cases e : k = i
 ·subst e;rw [List.getElem?_set_self (by rw [cL c k (by omega)]; exact h),row,List.getElem?_append_left (by simp [Sha.da])];simp [Sha.m6,Sha.da,List.getElem?_append_right]
 ·rw [List.getElem?_set_ne (by omega),row,row];by_cases hk : k < i
  ·rw [List.getElem?_append_left (by simp [Sha.da]; omega),List.getElem?_append_left (by simp [Sha.da]; omega)];simp [Sha.m6,List.getElem?_append_left,Sha.da,hk]
  ·rw [List.getElem?_append_right (by simp [Sha.da]; omega),List.getElem?_append_right (by simp [Sha.da]; omega)];simp only [List.length_map,Sha.da,List.getElem?_replicate];by_cases h2 : k < 64
   ·rw [if_pos (by omega),if_pos (by omega)]
   ·rw [if_neg (by omega),if_neg (by omega)]
def sQ (c : List UInt8) (i k : Nat) : Nat:=((c.drop (4 * i)).take k).foldl (fun x b=>x * 256 + b.toNat) 0
theorem An (c : List UInt8) (i : Nat) : sQ c i 0 = 0:=rfl
theorem mS (c : List UInt8) (i k : Nat) (b : UInt8) (h : c[4 * i + k]? = some b) : sQ c i (k + 1) = sQ c i k * 256 + b.toNat:=by
 unfold sQ;have : (c.drop (4 * i))[k]? = some b:=(by rw [List.getElem?_drop]; exact h);obtain ⟨h1,h2⟩:=List.getElem?_eq_some_iff.1 this;rw [List.take_succ_eq_append_getElem h1,List.foldl_append,h2];rfl
theorem Nl (c : List UInt8) (i k : Nat) (hk : k≤3) : sQ c i k < 16777216:=by
 have key : ∀ (l : List UInt8) (x : Nat),l.foldl (fun x b=>x * 256 + b.toNat) x < (x + 1) * 256 ^ l.length:=by
  intro l;induction l with
  | nil=>intro x; simp
  | cons b l ih =>
   intro x;rw [List.foldl_cons];have h1:=ih (x * 256 + b.toNat);have hb:=b.toNat_lt;have h2 : (x * 256 + b.toNat + 1) * 256 ^ l.length≤((x + 1) * 256) * 256 ^ l.length:=Nat.mul_le_mul_right _ (by omega);rw [List.length_cons,Nat.pow_succ,Nat.mul_comm (256 ^ l.length),← Nat.mul_assoc];omega
 have h:=key ((c.drop (4 * i)).take k) 0;have hl : ((c.drop (4 * i)).take k).length≤3:=(by simp; omega);have : 256 ^ ((c.drop (4 * i)).take k).length≤256 ^ 3:=Nat.pow_le_pow_right (by decide) hl;unfold sQ;omega
theorem Ih (c : List UInt8) (p : List Nat) (i : Nat) (hi : i < 16) (hc : c.length = 64) : sQ c i 4 = Sha.word c p i:=by
 have g : ∀ j,j < 4→c[4 * i + j]? = some (c.getD (4 * i + j) 0):=fun j hj=>by
  rw [List.getD_eq_getElem?_getD,List.getElem?_eq_getElem (by omega)];rfl
 rw [mS c i 3 _ (g 3 (by omega)),mS c i 2 _ (g 2 (by omega)),mS c i 1 _ (g 1 (by omega)),mS c i 0 _ (g 0 (by omega)),An];unfold Sha.word;rw [if_pos hi];simp only [Sha.Ib,Nat.add_zero,Nat.zero_mul,Nat.zero_add]
theorem Tz (x : Nat) (b : UInt8) (h : x < 16777216) : Li .u32 (oY .u32 (x : Int) 8) (ee .u32 (b.toNat : Int)) = ((x * 256 + b.toNat : Nat) : Int):=by
 have hb:=b.toNat_lt;rw [show (8 : Int) = ((8 : Nat) : Int) from rfl,Nd x 8 (by decide),lC rfl];have e1 : x * 2 ^ 8 % 4294967296 = x * 256:=(by omega);have e2 : b.toNat % 2 ^ IntKind.u32.bits = b.toNat:=(by simp only [IntKind.bits]; omega);rw [e1,e2,Ze _ _ (by omega) (by omega)];have:=Nat.shiftLeft_add_eq_or_of_lt (b:=b.toNat) (i:=8) (by omega) x;rw [Nat.shiftLeft_eq] at this;rw [show x * 256 = x * 2 ^ 8 from rfl,← this]
theorem Ao : ∀ (xs cs : List AV) (off : Nat),off + xs.length≤cs.length→bm cs off xs = cs.take off ++ xs ++ cs.drop (off + xs.length)
 | [],cs,off,_=>by simp [bm]
 | x :: xs,cs,off,h=>by
  simp only [List.length_cons] at h;rw [bm,Ao xs _ _ (by simp; omega)];have e1 : List.take (off + 1) (cs.set off x) = List.take off cs ++ [x]:=by
   rw [List.take_succ_eq_append_getElem (by simp; omega)];simp [List.take_set_of_le]
  have e2 : List.drop (off + 1 + xs.length) (cs.set off x) = List.drop (off + (xs.length + 1)) cs:=by
   rw [List.drop_set_of_lt (by omega),show off + 1 + xs.length = off + (xs.length + 1) from by omega]
  rw [e1,e2];simp
theorem sR (cs xs : List AV) (h : cs.length = xs.length) : bm cs 0 xs = xs:=by
 rw [Ao xs cs 0 (by omega)];simp [← h]
theorem z138 : bE prog 220 = some (List.replicate 64 (wV 0)):=by kernel_rfl
theorem TA (l : List Nat) : (l.map wV).all AV.one = true:=by
 rw [List.all_eq_true];intro x hx;obtain ⟨n,_,rfl⟩:=List.mem_map.1 hx;rfl
theorem q64 : ou .i64 ((64 : Nat) : Int) 4 = 16:=by decide
theorem kg (i : Nat) (h : i < 2 ^ 62) : jn .i64 (i : Int) 1 = ((i + 1 : Nat) : Int):=by
 rw [gF (by omega)];rfl
theorem F9 (i : Nat) (h : i < 64) : kO .i64 4 (i : Int) = ((4 * i : Nat) : Int):=by
 rw [fh (by omega)];omega
theorem nQ (a b : Nat) (h : a + b < 9223372036854775808) : jn .i64 (a : Int) (b : Int) = ((a + b : Nat) : Int):=by
 rw [gF (by omega)];omega
theorem Nn (a : Nat) (h : a < 2 ^ 62) : jn .i64 (a : Int) 4 = ((a + 4 : Nat) : Int):=nQ a 4 (by omega)
theorem nR (a b : Nat) (hb : b≤a) (h : a < 9223372036854775808) : ed .i64 (a : Int) (b : Int) = ((a - b : Nat) : Int):=by
 rw [b6 (by omega)];omega
theorem D7 (c : List UInt8) (hc : c.length = 64) (s : AS) :
  ah prog Γ 164 [ak c .any] s (fun r s'=>r = .agg ((Sha.m6 c 64).map wV)∧s' = s):=by
 refine ab func164 rfl ntmps164 results164 (by simp) ?_;refine jS @z138 fun K hK=>?_;intro o2 BX;refine hK _ _ ?_;clear hK K;refine jS @z138 fun K hK=>?_;intro o3 Zg;refine hK _ _ ?_;clear hK K;obtain ⟨nh,xcu⟩:=AS.Ch Zg;clear Zg;rw [← row_zero c];refine wK fun K hK=>?_;refine jA ?_;refine ag ?_;have fM : (ak c .any : AV) = .sl 1 64 (c.map aw) .any:=(by rw [ak,hc]);refine aH (fun E s1=>∃ i : Nat,i≤64∧E 0 = .sl 1 64 (c.map aw) .any∧E 2 = .ptr o2 0∧E 3 = .ptr o3 0∧E 7 = .v (.int .i64 i)∧s1 = (s.set o2 (row c 0)).set o3 (row c i))
  (fun E _=>match E 7 with | .v (.int _ i)=>64 - i.toNat | _=>0) ?_ ?_
 ·exact ⟨0,by omega,by simp [aG,dE,hc],by simp [aG],by simp [aG],by simp [aG],rfl⟩
 ·rintro E1 s1 ⟨i,hi,e0,e2,e3,e7,rfl⟩ -
  by_cases aO : i < 64
  ·have ik : (i : Int) < 64:=(by omega);have IP : (i : Int) < ((64 : Nat) : Int):=(by omega);refine jB (Ai @e7 (decide_eq_true ik)) ?_;refine wK fun K2 aX=>?_;refine jE ?_;refine ad ?_;refine aX _ _ ?_;clear aX K2;refine wK fun K3 bB=>?_;refine ag ?_;refine jB @e7 ?_;have sS : ∀ E4 : Env,E4 0 = .sl 1 64 (c.map aw) .any→E4 2 = .ptr o2 0→E4 3 = .ptr o3 0→E4 7 = .v (.int .i64 i)→K3 E4 ((s.set o2 (row c 0)).set o3 (row c (i + 1))):=by
    intro E4 f0 f2 f3 f7;refine bB _ _ ?_;clear bB K3;refine jD (Ai @f7 (kg i (by omega))) ?_;refine ⟨⟨i + 1,by omega,f0,f2,f3,rfl,rfl⟩,?_⟩;simp only [e7,aG,↓reduceIte];omega
   clear bB;refine wK fun K4 fS=>?_;by_cases h16 : i < 16
   ·have Np : (i : Int) < 16:=(by omega);refine jB (Ai @e0 (Ai @e7 @q64)) ?_;refine wC fun X Y hX hY=>?_;simp only [UP,DF,Nc,↓reduceIte,DB];refine ⟨fun _=>hX ?_,fun h=>absurd Np h⟩;clear hX hY X Y;have sW : (0 : Int)≤((4 * i : Nat) : Int):=(by omega);have hlh : ((4 * i : Nat) : Int)≤((4 * i + 4 : Nat) : Int):=(by omega);have xcv : ((4 * i + 4 : Nat) : Int)≤((64 : Nat) : Int):=(by omega);refine wK fun K5 js=>?_;refine jB (Ai @e0 (Ai @e7 (Ai (F9 i aO) (Ai (Nn (4 * i) (by omega)) (Ai @sW (Ai @hlh (Ai @xcv @Nat.add_sub_cancel_left))))))) ?_;refine ag ?_;obtain ⟨Xs,hXs⟩ : ∃ Xs,Xs = List.map aw (List.drop (4 * i) (List.take (4 * i + 4) c)):=⟨_,rfl⟩;have hXk : ∀ k,k < 4→List.take 1 (List.drop k Xs) = [aw (c.getD (4 * i + k) 0)]:=by
     intro k hk;have : Xs[k]? = some (aw (c.getD (4 * i + k) 0)):=by
      rw [hXs,List.getElem?_map,List.getElem?_drop,List.getElem?_take,if_pos (by omega),List.getElem?_eq_getElem (by omega)];simp only [Option.map_some,List.getD,List.getElem?_eq_getElem (show 4 * i + k < c.length by omega),Option.getD_some]
     rw [drop_cons _ _ _ this];rfl
    rw [← hXs];refine aH (fun E s2=>∃ k : Nat,k≤4∧E 0 = .sl 1 64 (c.map aw) .any∧E 2 = .ptr o2 0∧E 3 = .ptr o3 0∧E 7 = .v (.int .i64 i)∧E 4 = .v (.int .i64 i)∧E 21 = .sl 1 4 Xs .any∧E 22 = .v (.int .i64 4)∧E 23 = .v (.int .i64 k)∧s2 = (s.set o2 (row c 0)).set o3 (rowP c i (sQ c i k)))
     (fun E _=>match E 23 with | .v (.int _ k)=>4 - k.toNat | _=>0) ?_ ?_
    ·refine ⟨0,by omega,e0,e2,e3,e7,rfl,rfl,rfl,rfl,by rw [An,Ky c i aO]⟩
    ·rintro E2 s2 ⟨k,hk,g0,g2,g3,g7,g4,g21,g22,g23,rfl⟩ -
     by_cases ll : k < 4
     ·have m9 : (k : Int) < 4:=(by omega);have KX : (0 : Int)≤(k : Int):=(by omega);have GK : (k : Int) < ((4 : Nat) : Int):=(by omega);have lI : (0 : Int)≤(i : Int):=(by omega);refine jB (Ai @g23 (Ai @g22 (decide_eq_true m9))) ?_;refine wK fun K6 oE=>?_;refine jE ?_;refine ad ?_;refine oE _ _ ?_;clear oE K6;refine wK fun K7 Ep=>?_;refine ag ?_;obtain ⟨b,hb⟩ : ∃ b,b = c.getD (4 * i + k) 0:=⟨_,rfl⟩;have hbk : c[4 * i + k]? = some b:=by
       rw [hb,List.getD_eq_getElem?_getD,List.getElem?_eq_getElem (by omega)];rfl
      have Zh:=hXk k ll;rw [← hb] at Zh;refine jB (Ai @g21 (Ai @g23 (Ai @KX (Ai @m9 (Ai @GK @Zh))))) ?_;obtain ⟨v,hv⟩ : ∃ v,v = sQ c i k:=⟨_,rfl⟩;have hv3 : v < 16777216:=(by rw [hv]; exact Nl c i k (by omega));rw [← hv];have hd:=Kz c i v aO;have ff : (rowP c i v).set i (wV (v * 256 + b.toNat)) = rowP c i (sQ c i (k + 1)):=(by rw [Ni,mS c i k b hbk,hv]);have hlen:=Nj c i v hi;obtain ⟨R,hR⟩ : ∃ R,R = rowP c i v:=⟨_,rfl⟩;rw [← hR] at hd ff hlen ⊢;refine wE fun K hK=>?_;simp only [↓DN,Qa,Qb,Qc,Qd,Qe,Qf,Qg,Qh,reduceCtorEq,↓reduceIte,Na,Nb,Nc,Nk,Nf,Ng,Nh,Za,Zb,Zc,TT,g3,g4,lI,ik,IP,hd,aw,Tz v b hv3,ff,hlen,aO];refine ⟨by omega,hK _ _ ?_⟩;clear hK K;simp only [aq,av,if_true,if_false];refine Ep _ _ ?_;clear Ep K7;refine jD (Ai @g23 (kg k (by omega))) ?_;refine ⟨⟨k + 1,by omega,g0,g2,g3,g7,g4,g21,g22,rfl,rfl⟩,?_⟩;simp only [g23,aG,↓reduceIte];omega
     ·have m9 : ¬ (k : Int) < 4:=(by omega);obtain rfl : k = 4:=(by omega);refine jB (Ai @g23 (Ai @g22 (decide_eq_false m9))) ?_;refine wK fun K6 oE=>?_;refine jF ?_;refine aB ?_;simp only [av,aq,if_true];clear oE K6;refine js _ _ ?_;clear js K5;refine aB ?_;simp only [av,aq,if_true];rw [Ih c (Sha.m6 c i) i h16 hc];have : rowP c i (Sha.word c (Sha.m6 c i) i) = row c (i + 1):=yC c i aO;rw [this];exact sS _ g0 g2 g3 g7
   ·have Np : ¬ (i : Int) < 16:=(by omega);have lI : (0 : Int)≤(i : Int):=(by omega);refine jB (Ai @e0 (Ai @e7 @q64)) ?_;refine wC fun X Y hX hY=>?_;simp only [UP,DF,Nc,↓reduceIte,DB];refine ⟨fun h=>absurd h Np,fun _=>hY ?_⟩;clear hX hY X Y;refine ad ?_;refine fS _ _ ?_;clear fS K4;have n2 : (0 : Int)≤((i - 2 : Nat) : Int):=(by omega);have n7 : (0 : Int)≤((i - 7 : Nat) : Int):=(by omega);have n15 : (0 : Int)≤((i - 15 : Nat) : Int):=(by omega);have n16 : (0 : Int)≤((i - 16 : Nat) : Int):=(by omega);have m2 : ((i - 2 : Nat) : Int) < ((64 : Nat) : Int):=(by omega);have m7 : ((i - 7 : Nat) : Int) < ((64 : Nat) : Int):=(by omega);have Rp : ((i - 15 : Nat) : Int) < ((64 : Nat) : Int):=(by omega);have P3 : ((i - 16 : Nat) : Int) < ((64 : Nat) : Int):=(by omega);have s2 : ed .i64 (i : Int) 2 = ((i - 2 : Nat) : Int):=nR i 2 (by omega) (by omega);have s7 : ed .i64 (i : Int) 7 = ((i - 7 : Nat) : Int):=nR i 7 (by omega) (by omega);have s15 : ed .i64 (i : Int) 15 = ((i - 15 : Nat) : Int):=nR i 15 (by omega) (by omega);have P4 : ed .i64 (i : Int) 16 = ((i - 16 : Nat) : Int):=nR i 16 (by omega) (by omega);have d2:=kL c i (i - 2) (by omega);have d7:=kL c i (i - 7) (by omega);have d15:=kL c i (i - 15) (by omega);have d16:=kL c i (i - 16) (by omega);have hw : Sha.word c (Sha.m6 c i) i = Sha.ft (Sha.ft (Sha.ft (Sha.D3 ((Sha.m6 c i).getD (i - 2) 0) 17 19 10) ((Sha.m6 c i).getD (i - 7) 0)) (Sha.D3 ((Sha.m6 c i).getD (i - 15) 0) 7 18 3)) ((Sha.m6 c i).getD (i - 16) 0):=(by rw [Sha.word,if_neg h16]);have ff:=yC c i aO;rw [hw] at ff;have hlen:=cL c i hi;have l2:=Sha.nP c i (i - 2);have P5:=Sha.nP c i (i - 15);generalize (Sha.m6 c i).getD (i - 2) 0 = x2 at *
    generalize (Sha.m6 c i).getD (i - 7) 0 = x7 at *
    generalize (Sha.m6 c i).getD (i - 15) 0 = x15 at *
    generalize (Sha.m6 c i).getD (i - 16) 0 = x16 at *
    obtain ⟨R,hR⟩ : ∃ R,R = row c i:=⟨_,rfl⟩;rw [← hR] at d2 d7 d15 d16 ff hlen ⊢;refine fB T.mixed [(o3,R)] [5,15] [4,9,14,20] [23] (by kernel_rfl) (by simp only [aS,bh,and_true]; simp [AS.set,aG]) ?_;intro K hK;simp only [↓bX,↓bG,eR,eP,bn,bu,aS,bh,List.any_cons,List.any_nil,List.contains_cons,List.contains_nil,Nat.reduceBEq,Bool.or_false,Bool.or_true,Bool.or_self,Bool.false_or,↓DN,Qa,Qb,Qc,Qd,Qe,Qf,Qg,Qh,reduceCtorEq,↓reduceIte,Na,Nb,Nc,Nk,Nf,Ng,Nh,Za,Zb,Zc,TT,e3,e7,lI,IP,n2,n7,n15,n16,m2,m7,Rp,P3,s2,s7,s15,P4,d2,d7,d15,d16,nh];refine ae (sP x2 17 19 10 l2 (by omega) (by omega) (by omega) (by omega) (by omega) (by omega) _) ?_;rintro r sa ⟨rfl,rfl⟩;simp only [↓cR,↓ct,cw,↓bX,↓bG,eR,eP,bn,bu,aS,bh,List.any_cons,List.any_nil,DX,Nat.reduceBEq,↓DN,Qa,Qb,Qc,Qd,Qe,Qf,Qg,Qh,reduceCtorEq,↓reduceIte,Na,Nb,Nc,Nk,Nf,Ng,Nh,Za,Zb,Zc,TT,e3,e7,lI,IP,n2,n7,n15,n16,m2,m7,Rp,P3,s2,s7,s15,P4,d2,d7,d15,d16,nh,wI];refine ae (sP x15 7 18 3 P5 (by omega) (by omega) (by omega) (by omega) (by omega) (by omega) _) ?_;rintro r sb ⟨rfl,rfl⟩;simp only [↓cR,↓ct,cw,↓bX,↓bG,eR,eP,bn,bu,aS,bh,List.any_cons,List.any_nil,DX,Nat.reduceBEq,↓DN,Qa,Qb,Qc,Qd,Qe,Qf,Qg,Qh,reduceCtorEq,↓reduceIte,Na,Nb,Nc,Nk,Nf,Ng,Nh,Za,Zb,Zc,TT,e3,e7,lI,IP,n2,n7,n15,n16,m2,m7,Rp,P3,s2,s7,s15,P4,d2,d7,d15,d16,nh,wI,ff,hlen];refine ⟨by omega,hK _ _ ?_⟩;clear hK K;simp only [aq,av,if_true,if_false];exact sS _ e0 e2 e3 e7
  ·have ik : ¬ (i : Int) < 64:=(by omega);obtain rfl : i = 64:=(by omega);refine jB (Ai @e7 (decide_eq_false ik)) ?_;refine wK fun K2 aX=>?_;refine jF ?_;refine aB ?_;simp only [av,aq,if_true];clear aX K2;refine hK _ _ ?_;clear hK K;rw [F8 c];have SC : ((Sha.m6 c 64).map wV).length = 64:=(by simp [Sha.da]);have bT:=TA (Sha.m6 c 64);have gQ : List.take 64 ((Sha.m6 c 64).map wV) = (Sha.m6 c 64).map wV:=List.take_of_length_le (by omega);obtain ⟨X,hX⟩ : ∃ X,X = (Sha.m6 c 64).map wV:=⟨_,rfl⟩;rw [← hX] at SC bT gQ ⊢;refine jS (Ai @e2 (Ai @e3 (Ai @SC (Ai @gQ (Ai @bT (Ai @nh @nh.symm)))))) fun K hK=>?_;have JO : (row c 0).length = 64:=cL c 0 (by omega);rw [sR (row c 0) X (by omega)];refine ⟨by omega,hK _ _ ?_⟩;clear hK K;refine bo ?_;refine jX (v:=.agg X) (o:=o2) (off:=0) e2 (AS.aj _ _ _) (by rw [T.Sz]; decide) (by simp only [↓DN,Qa,Qb,Qc,Qd,Qe,Qf,Qg,Qh,reduceCtorEq,↓reduceIte,Na,Nb,Nc,Nk,Nf,Ng,Nh,Za,Zb,Zc,TT,SC,gQ]) ?_;exact ⟨_,s,AV.aL.refl _,AS.bg (AS.bg (AS.bg (AS.le.refl s) BX _) xcu _) BX _,rfl,rfl⟩
abbrev gR (t : Sha.St) : List AV:=[wV t.a,wV t.b,wV t.c,wV t.d,wV t.e,wV t.f,wV t.g,wV t.h]
theorem c8 : ((8 : Nat) : Int) = 8:=rfl
theorem Ap (l : List Nat) (i : Nat) (h : i < l.length) : (l.map wV)[i]? = some (wV (l.getD i 0)):=by
 rw [List.getElem?_map,List.getElem?_eq_getElem h];simp [List.getD,List.getElem?_eq_getElem h]
def Aq (t u : Sha.St) (i : Nat) : List AV:=(gR (t.add u)).take i ++ (gR t).drop i
theorem CI (t u : Sha.St) : Aq t u 0 = gR t:=rfl
theorem CJ (t u : Sha.St) : Aq t u 8 = gR (t.add u):=rfl
theorem Gb (t u : Sha.St) (i : Nat) (h : i≤8) : (Aq t u i).length = 8:=by
 simp [Aq]; omega
theorem at8 {i : Nat} (h : i < 8) : i = 0∨i = 1∨i = 2∨i = 3∨i = 4∨i = 5∨i = 6∨i = 7:=by omega
theorem CK (t u : Sha.St) (i : Nat) (h : i < 8) : List.drop i (Aq t u i) = wV (t.list.getD i 0) :: (gR t).drop (i + 1):=by
 rcases at8 h with rfl | rfl | rfl | rfl | rfl | rfl | rfl | rfl <;> rfl
theorem Gc (t u : Sha.St) (i : Nat) (h : i < 8) : (Aq t u i).set i (wV (Sha.ft (t.list.getD i 0) (u.list.getD i 0))) = Aq t u (i + 1):=by
 rcases at8 h with rfl | rfl | rfl | rfl | rfl | rfl | rfl | rfl <;> rfl
theorem Ar (u : Sha.St) (i : Nat) (h : i < 8) : List.drop i (gR u) = wV (u.list.getD i 0) :: (gR u).drop (i + 1):=by
 rcases at8 h with rfl | rfl | rfl | rfl | rfl | rfl | rfl | rfl <;> rfl
theorem Jo (u : Sha.St) : (gR u).all AV.one = true:=rfl
theorem KA (hG : Γ 1 = Sha.K.map wV) (t : Sha.St) (ht : t.ok) (c : List UInt8) (hc : c.length = 64) (s : AS) :
  ah prog Γ 101 [.agg (gR t),ak c .any] s (fun r s'=>r = .agg (gR (Sha.mix t c))∧s' = s):=by
 refine ab func101 rfl ntmps101 results101 (by simp) ?_;refine jQ fun K hK=>?_;intro o2 BX o4 Zi;refine hK _ _ ?_;clear hK K;obtain ⟨h42,Zj⟩:=AS.Ch Zi;clear Zi;refine jS (Ai @h42 @h42.symm) fun K hK=>?_;intro o5 ho5;have h54 : o5≠o4:=(by intro e; simp [e] at ho5);have Zk : o5≠o2:=(by intro e; subst e; simp [h54] at ho5);have xcy : s.aJ o5 = none:=(by simpa [h54,Zk] using ho5);clear ho5;refine hK _ _ ?_;clear hK K;obtain ⟨Z,hZ⟩ : ∃ Z : List AV,Z = [wV 0,wV 0,wV 0,wV 0,wV 0,wV 0,wV 0,wV 0]:=⟨_,rfl⟩;have hZl : Z.length = 8:=(by rw [hZ]; rfl);rw [show ([AV.v (.int .u32 0),AV.v (.int .u32 0),AV.v (.int .u32 0),AV.v (.int .u32 0),AV.v (.int .u32 0),AV.v (.int .u32 0),AV.v (.int .u32 0),AV.v (.int .u32 0)] : List AV) = Z from hZ.symm];refine wK fun K hK=>?_;refine jQ fun K hK=>?_;rw [show AV.sl 1 c.length (List.map aw c) .any = ak c .any from rfl];refine ae (D7 c hc _) ?_;rintro r sa ⟨rfl,rfl⟩;refine jR hK ?_;clear hK K;obtain ⟨W,hW⟩ : ∃ W,W = Sha.m6 c 64:=⟨_,rfl⟩;have Pc : W.length = 64:=(by rw [hW,Sha.da]);rw [← hW];refine ag ?_;refine aH (fun E s1=>∃ i : Nat,i≤64∧E 2 = .ptr o2 0∧E 4 = .ptr o4 0∧E 5 = .ptr o5 0∧E 15 = .agg (W.map wV)∧E 16 = .v (.int .i64 i)∧s1 = ((s.set o2 (gR t)).set o4 Z).set o5 (gR (Sha.rounds W t i)))
  (fun E _=>match E 16 with | .v (.int _ i)=>64 - i.toNat | _=>0) ?_ ?_
 ·exact ⟨0,by omega,by simp [aG],by simp [aG],by simp [aG],by simp [aG],by simp [aG],rfl⟩
 ·rintro E1 s1 ⟨i,hi,e2,e4,e5,Lc,Ja,rfl⟩ -
  by_cases aO : i < 64
  ·have ik : (i : Int) < 64:=(by omega);have IP : (i : Int) < ((64 : Nat) : Int):=(by omega);have lI : (0 : Int)≤(i : Int):=(by omega);refine jB (Ai @Ja (decide_eq_true ik)) ?_;refine wK fun K2 aX=>?_;refine jE ?_;refine ad ?_;refine aX _ _ ?_;clear aX K2;refine wK fun K3 bB=>?_;refine ag ?_;have As:=Ap W i (by omega);have hki:=Ap Sha.K i (by rw [show Sha.K.length = 64 from rfl]; omega);have il:=Sha.wH (w:=W) ht i;have tS : Sha.rounds W t (i + 1) = (Sha.rounds W t i).step (Sha.K.getD i 0) (W.getD i 0):=rfl;generalize W.getD i 0 = wi at *
   generalize Sha.K.getD i 0 = ki at *
   generalize hu : Sha.rounds W t i = u at *
   have Jp : List.drop i (Sha.K.map wV) = wV ki :: List.drop (i + 1) (Sha.K.map wV):=drop_cons _ _ _ hki;refine jB (Ai @Lc (Ai @Ja (Ai @lI (Ai @ik (Ai @IP @As))))) ?_;refine eS T.mixed [(o5,gR u)] [] [1,3] [] (by kernel_rfl) (by simp only [aS,bh,and_true]; simp [AS.set,aG]) ?_;intro K hK;simp only [↓bX,↓bG,eR,eP,bn,bu,aS,bh,List.any_cons,List.any_nil,List.contains_cons,List.contains_nil,Nat.reduceBEq,Bool.or_false,Bool.or_true,Bool.or_self,Bool.false_or,↓DN,Qa,Qb,Qc,Qd,Qe,Qf,Qg,Qh,reduceCtorEq,↓reduceIte,Na,Nb,Nc,Nk,Nf,Ng,Nh,Za,Zb,Zc,TT,e5,c8];refine hK _ _ ?_;clear hK K;refine eS T.mixed [(o5,gR u)] [3] [1,7,12] [] (by kernel_rfl) (by simp only [aS,bh,and_true]; simp [AS.set,aG]) ?_;intro K hK;simp only [↓bX,↓bG,eR,eP,bn,bu,aS,bh,List.any_cons,List.any_nil,List.contains_cons,List.contains_nil,Nat.reduceBEq,Bool.or_false,Bool.or_true,Bool.or_self,Bool.false_or,↓DN,Qa,Qb,Qc,Qd,Qe,Qf,Qg,Qh,reduceCtorEq,↓reduceIte,Na,Nb,Nc,Nk,Nf,Ng,Nh,Za,Zb,Zc,TT,e5,Ja,c8];have Ii : ∀ {a b : Nat},a < 4294967296→b < 4294967296→a &&& b < 4294967296:=fun {a b} ha hb=>Nat.lt_of_le_of_lt Nat.and_le_left ha;have Zl : ∀ {a b : Nat},a < 4294967296→b < 4294967296→a ^^^ b < 4294967296:=fun {a b} ha hb=>Nat.xor_lt_two_pow (n:=32) ha hb;have hn : 4294967295 - u.e < 4294967296:=(by omega);refine ae (vl u.e 6 11 25 il.e (by omega) (by omega) (by omega) (by omega) (by omega) (by omega) _) ?_;rintro r sb ⟨rfl,rfl⟩;simp only [↓cR,↓ct,cw,↓bX,↓bG,eR,eP,bn,bu,aS,bh,List.any_cons,List.any_nil,DX,Nat.reduceBEq,↓DN,Qa,Qb,Qc,Qd,Qe,Qf,Qg,Qh,reduceCtorEq,↓reduceIte,Na,Nb,Nc,Nk,Nf,Ng,Nh,Za,Zb,Zc,TT,e5,Ja,c8,hG,Jp,lI,IP,wI,BH u.e u.f il.e il.f,Zf u.e il.e,BH (4294967295 - u.e) u.g hn il.g,qf (u.e &&& u.f) ((4294967295 - u.e) &&& u.g) (Ii il.e il.f) (Ii hn il.g)];refine hK _ _ ?_;clear hK K;refine eS T.mixed [(o5,gR u)] [1] [4,8,12,14] [] (by kernel_rfl) (by simp only [aS,bh,and_true]; simp [AS.set,aG]) ?_;intro K hK;simp only [↓bX,↓bG,eR,eP,bn,bu,aS,bh,List.any_cons,List.any_nil,List.contains_cons,List.contains_nil,Nat.reduceBEq,Bool.or_false,Bool.or_true,Bool.or_self,Bool.false_or,↓DN,Qa,Qb,Qc,Qd,Qe,Qf,Qg,Qh,reduceCtorEq,↓reduceIte,Na,Nb,Nc,Nk,Nf,Ng,Nh,Za,Zb,Zc,TT,e5,c8];refine ae (vl u.a 2 13 22 il.a (by omega) (by omega) (by omega) (by omega) (by omega) (by omega) _) ?_;rintro r sb ⟨rfl,rfl⟩;simp only [↓cR,↓ct,cw,↓bX,↓bG,eR,eP,bn,bu,aS,bh,List.any_cons,List.any_nil,DX,Nat.reduceBEq,↓DN,Qa,Qb,Qc,Qd,Qe,Qf,Qg,Qh,reduceCtorEq,↓reduceIte,Na,Nb,Nc,Nk,Nf,Ng,Nh,Za,Zb,Zc,TT,e5,c8,wI,BH u.a u.b il.a il.b,BH u.a u.c il.a il.c,BH u.b u.c il.b il.c,qf (u.a &&& u.b) (u.a &&& u.c) (Ii il.a il.b) (Ii il.a il.c),qf ((u.a &&& u.b) ^^^ (u.a &&& u.c)) (u.b &&& u.c) (Zl (Ii il.a il.b) (Ii il.a il.c)) (Ii il.b il.c)];refine hK _ _ ?_;clear hK K;refine jD (Ai @e5 (Ai @c8 @wI)) ?_;simp only [aq,av,if_true,if_false];refine bB _ _ ?_;clear bB K3;refine jD (Ai @Ja (kg i (by omega))) ?_;refine ⟨⟨i + 1,by omega,e2,e4,e5,Lc,rfl,?_⟩,?_⟩
   ·rw [tS];simp only [gR,Sha.St.step,Sha.t1,Sha.t2]
   ·simp only [Ja,aG,↓reduceIte];omega
  ·have ik : ¬ (i : Int) < 64:=(by omega);obtain rfl : i = 64:=(by omega);refine jB (Ai @Ja (decide_eq_false ik)) ?_;refine wK fun K2 aX=>?_;refine jF ?_;refine aB ?_;simp only [av,aq,if_true];clear aX K2;refine hK _ _ ?_;clear hK K;have P6 : Sha.mix t c = t.add (Sha.rounds W t 64):=(by rw [hW]; rfl);rw [P6];generalize Sha.rounds W t 64 = u;rw [← CI t u];refine wK fun K hK=>?_;refine jA ?_;refine ag ?_;refine aH (fun E s1=>∃ i : Nat,i≤8∧E 2 = .ptr o2 0∧E 4 = .ptr o4 0∧E 5 = .ptr o5 0∧E 83 = .v (.int .i64 i)∧s1.aJ o2 = some (Aq t u i)∧s1.aJ o5 = some (gR u)∧s1.aJ o4 = some Z∧s.le s1)
    (fun E _=>match E 83 with | .v (.int _ i)=>8 - i.toNat | _=>0) ?_ ?_
   ·refine ⟨0,by omega,e2,e4,e5,rfl,?_,AS.aj _ _ _,?_,AS.bg (AS.bg (AS.bg (AS.le.refl s) BX _) Zj _) xcy _⟩
    ·rw [AS.aR _ Zk.symm,AS.aR _ h42.symm,AS.aj]
    ·rw [AS.aR _ h54.symm,AS.aj]
   ·rintro E2 s2 ⟨i,hi,g2,g4,g5,UB,j2,j5,j4,hle⟩ -
    by_cases aO : i < 8
    ·have ik : (i : Int) < 8:=(by omega);have lI : (0 : Int)≤(i : Int):=(by omega);refine jB (Ai @UB (decide_eq_true ik)) ?_;refine wK fun K2 aX=>?_;refine jE ?_;refine ad ?_;refine aX _ _ ?_;clear aX K2;refine wK fun K3 bB=>?_;refine ag ?_;refine jB @UB ?_;have d2:=CK t u i aO;have d5:=Ar u i aO;have ff:=Gc t u i aO;have hlen:=Gb t u i hi;generalize t.list.getD i 0 = x at *
     generalize u.list.getD i 0 = y at *
     obtain ⟨X,hX⟩ : ∃ X,X = Aq t u i:=⟨_,rfl⟩;rw [← hX] at d2 ff hlen j2;obtain ⟨Y,hY⟩ : ∃ Y,Y = gR u:=⟨_,rfl⟩;rw [← hY] at d5 j5;refine fB T.mixed [(o2,X),(o5,Y)] [] [2,5] [8] (by kernel_rfl) (by simp only [aS,bh,and_true]; simp [AS.set,aG,j2,j5]) ?_;intro K hK;simp only [↓bX,↓bG,eR,eP,bn,bu,aS,bh,List.any_cons,List.any_nil,List.contains_cons,List.contains_nil,Nat.reduceBEq,Bool.or_false,Bool.or_true,Bool.or_self,Bool.false_or,↓DN,Qa,Qb,Qc,Qd,Qe,Qf,Qg,Qh,reduceCtorEq,↓reduceIte,Na,Nb,Nc,Nk,Nf,Ng,Nh,Za,Zb,Zc,TT,g2,g5,UB,c8,lI,ik,d2,d5,Zk,Zk.symm,j2,j5,wI,ff,hlen];refine ⟨by omega,hK _ _ ?_⟩;clear hK K;simp only [aq,av,if_true,if_false];refine bB _ _ ?_;clear bB K3;refine jD (Ai @UB (kg i (by omega))) ?_;refine ⟨⟨i + 1,by omega,g2,g4,g5,rfl,AS.aj _ _ _,by rw [AS.aR _ Zk,j5,hY],by rw [AS.aR _ h42]; exact j4,AS.bg hle BX _⟩,?_⟩;simp only [UB,aG,↓reduceIte];omega
    ·have ik : ¬ (i : Int) < 8:=(by omega);obtain rfl : i = 8:=(by omega);refine jB (Ai @UB (decide_eq_false ik)) ?_;refine wK fun K2 aX=>?_;refine jF ?_;refine aB ?_;simp only [av,aq,if_true];clear aX K2;refine hK _ _ ?_;clear hK K;rw [CJ] at j2;have bT:=Jo (t.add u);have hlen : (gR (t.add u)).length = 8:=rfl;have gQ : List.take 8 (gR (t.add u)) = gR (t.add u):=rfl;obtain ⟨X,hX⟩ : ∃ X,X = gR (t.add u):=⟨_,rfl⟩;rw [← hX] at j2 bT hlen gQ ⊢;refine jS (Ai @g2 (Ai @g4 (Ai @j2 (Ai @j4 (Ai @hlen (Ai @gQ @bT)))))) fun K hK=>?_;rw [sR Z X (by omega)];refine ⟨by omega,hK _ _ ?_⟩;clear hK K;refine bo ?_;refine jX (v:=.agg X) (o:=o4) (off:=0) g4 (AS.aj _ _ _) (by rw [T.Sy]; decide) (by simp only [↓DN,Qa,Qb,Qc,Qd,Qe,Qf,Qg,Qh,reduceCtorEq,↓reduceIte,Na,Nb,Nc,Nk,Nf,Ng,Nh,Za,Zb,Zc,TT,hlen,gQ]) ?_;exact ⟨_,s,AV.aL.refl _,AS.bg hle Zj _,rfl,rfl⟩
theorem iI : ((0 : Nat) : Int) = 0:=rfl
theorem Ij (n : Nat) (hn : n≤2 ^ 45) (s : AS) :
  ah prog Γ 163 [.v (.slice none 0 0),.v (.int .i64 (n : Int))] s (fun r s'=>kW s [] r s'):=by
 refine ab func163 rfl ntmps163 results163 (by simp) ?_;have tZ : ¬ ((n : Int) < 0):=(by omega);have zE : ed .i64 (n : Int) (ed .i64 ((0 : Nat) : Int) ((0 : Nat) : Int)) = (n : Int):=by
  rw [show ed .i64 ((0 : Nat) : Int) ((0 : Nat) : Int) = 0 from by decide,b6 (by omega)];omega
 refine jA ?_;refine wK fun K hK=>?_;refine jB (decide_eq_false tZ) ?_;refine jF ?_;refine ad ?_;refine hK _ _ ?_;clear hK K;refine wK fun K hK=>?_;refine jB @zE ?_;have mG : ∀ (E : Env) (r : AV) (s1 : AS),E 0 = r→kW s [] r s1→K E s1:=by
  intro E r s1 h0 h1;refine hK _ _ ?_;clear hK K;refine jB @h0 ?_;refine jI ?_;exact ⟨_,_,AV.aL.refl _,AS.le.refl _,h1⟩
 clear hK;by_cases h0 : n = 0
 ·subst h0;refine jA ?_;refine wC fun X Y hX hY=>?_;simp only [UP,DF,Nc,↓reduceIte,DB];refine ⟨fun h=>absurd h (by decide),fun _=>hY ?_⟩;clear hX hY X Y;refine ad ?_;exact mG _ _ _ (by simp only [aG,dE,Nc,↓reduceIte]; rfl) (kW.nil s)
 ·have IU : (0 : Int) < (n : Int):=(by omega);refine jB (decide_eq_true IU) ?_;refine jE ?_;refine zt (k:=.i64) (e:=5) (z:=[.v (.int .u8 0)]) rfl rfl rfl (by decide) rfl rfl rfl (by decide) underlying22 underlying22 underlying3 ⟨T.z5,by rw [T.c5]; decide,by rw [T.c5]; rfl⟩ T.c5 ?_;intro ops;refine jP @iI ?_;refine ⟨n,rfl,h0,by omega,by omega,fun t v ht=>?_⟩;exact mG _ (.sl 1 0 [] (.own t 0)) _ rfl ⟨AS.bC (AS.le.refl s) ht 0,.inr ⟨t,0,ht,AS.km _ _ _,rfl⟩⟩
def ji (ls : List (List UInt8)) : List AV:=ls.map fun l=>ak l .any
theorem Au (ls : List (List UInt8)) (i : Nat) (h : i < ls.length) : List.take 1 (List.drop i (ji ls)) = [ak ls[i] .any]:=by
 have : (ji ls)[i]? = some (ak ls[i] .any):=(by simp [ji,h]);rw [drop_cons _ _ _ this];rfl
theorem CL (ls : List (List UInt8)) (i : Nat) (h : i < ls.length) : (ls.take (i + 1)).flatten = (ls.take i).flatten ++ ls[i]:=by
 rw [List.take_succ_eq_append_getElem h,List.flatten_append,List.flatten_cons,List.flatten_nil,List.append_nil]
theorem Jq (ls : List (List UInt8)) (i : Nat) : (ls.take i).flatten.length≤ls.flatten.length:=by
 have : ls.flatten = (ls.take i).flatten ++ (ls.drop i).flatten:=(by rw [← List.flatten_append,List.take_append_drop]);rw [this,List.length_append];omega
theorem D8 (ls : List (List UInt8)) (sp : Sp) (hn : ls.length≤2 ^ 45) (hl : ls.flatten.length≤2 ^ 45) (s : AS) :
  ah prog Γ 100 [.sl 1 ls.length (ji ls) sp] s (fun r s'=>kW s ls.flatten r s'):=by
 refine ab func100 rfl ntmps100 results100 (by simp) ?_;refine jA ?_;refine jA ?_;refine wK fun K hK=>?_;refine jA ?_;refine ag ?_;refine aH (fun E s1=>∃ i : Nat,i≤ls.length∧E 0 = .sl 1 ls.length (ji ls) sp∧E 3 = .v (.int .i64 ((ls.take i).flatten.length : Nat))∧E 9 = .sl 1 ls.length (ji ls) sp∧E 10 = .v (.int .i64 ls.length)∧E 11 = .v (.int .i64 i)∧s1 = s)
  (fun E _=>match E 11 with | .v (.int _ i)=>ls.length - i.toNat | _=>0) ?_ ?_
 ·exact ⟨0,Nat.zero_le _,by simp [aG,dE],by simp [aG],by simp [aG,dE],by simp [aG],by simp [aG],rfl⟩
 ·rintro E1 s1 ⟨i,hi,e0,e3,e9,e10,Lb,rfl⟩ -
  by_cases aO : i < ls.length
  ·have cN : (i : Int) < (ls.length : Int):=(by omega);have bK : (0 : Int)≤(i : Int):=(by omega);have qH:=Jq ls (i + 1);have vm:=CL ls i aO;have kF:=Au ls i aO;generalize ls[i] = l at *
   refine jB (Ai @e10 (Ai @Lb (decide_eq_true cN))) ?_;refine wK fun K2 aX=>?_;refine jE ?_;refine ad ?_;refine aX _ _ ?_;clear aX K2;refine wK fun K3 bB=>?_;refine ag ?_;refine jB (Ai @e9 (Ai @Lb (Ai @bK (Ai @cN @kF)))) ?_;have fY : jn .i64 ((ls.take i).flatten.length : Int) (l.length : Int) = ((ls.take (i + 1)).flatten.length : Int):=by
    rw [vm,List.length_append];rw [vm,List.length_append] at qH;exact nQ _ _ (by omega)
   refine jB (Ai @e3 @fY) ?_;have tZ : ¬ (((ls.take (i + 1)).flatten.length : Int) < 0):=(by omega);refine jB (decide_eq_false tZ) ?_;refine jF ?_;refine ad ?_;simp only [av,aq,if_true,if_false];refine bB _ _ ?_;clear bB K3;refine jD (Ai @Lb (kg i (by omega))) ?_;refine ⟨⟨i + 1,by omega,e0,rfl,e9,e10,rfl,rfl⟩,?_⟩;simp only [Lb,aG,↓reduceIte];omega
  ·have cN : ¬ (i : Int) < (ls.length : Int):=(by omega);obtain rfl : i = ls.length:=(by omega);rw [List.take_of_length_le (Nat.le_refl _)] at e3;refine jB (Ai @e10 (Ai @Lb (decide_eq_false cN))) ?_;refine wK fun K2 aX=>?_;refine jF ?_;refine aB ?_;simp only [av,aq,if_true];clear aX K2;refine hK _ _ ?_;clear hK K;refine jS @e3 fun K hK=>?_;refine ae (Ij ls.flatten.length hl _) ?_;intro r sa fQ;refine jR hK ?_;clear hK K;refine wK fun K hK=>?_;refine jB @e0 ?_;refine ag ?_;refine aH (fun E s2=>∃ i : Nat,i≤ls.length∧E 25 = .sl 1 ls.length (ji ls) sp∧E 26 = .v (.int .i64 ls.length)∧E 27 = .v (.int .i64 i)∧kW s1 (ls.take i).flatten (E 6) s2)
    (fun E _=>match E 27 with | .v (.int _ i)=>ls.length - i.toNat | _=>0) ?_ ?_
   ·exact ⟨0,Nat.zero_le _,rfl,rfl,rfl,by simpa only [aG,Nc,↓reduceIte,List.take_zero,List.flatten_nil] using fQ⟩
   ·rintro E2 s2 ⟨i,hi,OY,HC,Cq,tG⟩ -
    by_cases aO : i < ls.length
    ·have cN : (i : Int) < (ls.length : Int):=(by omega);have bK : (0 : Int)≤(i : Int):=(by omega);have qH:=Jq ls (i + 1);have vm:=CL ls i aO;have kF:=Au ls i aO;generalize ls[i] = l at *
     refine jB (Ai @HC (Ai @Cq (decide_eq_true cN))) ?_;refine wK fun K2 aX=>?_;refine jE ?_;refine ad ?_;refine aX _ _ ?_;clear aX K2;refine wK fun K3 bB=>?_;refine ag ?_;refine jB (Ai @OY (Ai @Cq (Ai @bK (Ai @cN @kF)))) ?_;generalize tR : E2 6 = r6 at tG;refine jU @tR fun K hK=>?_;have hb : (ls.take i).flatten.length + l.length≤2 ^ 45:=by
      rw [vm,List.length_append] at qH;omega
     refine eT tG rfl rfl T.c5 T.b5 hb ?_;intro r2 s3 Rx;rw [← vm] at Rx;refine hK _ _ ?_;clear hK K;simp only [av,aq,if_true,if_false];refine bB _ _ ?_;clear bB K3;refine jD (Ai @Cq (kg i (by omega))) ?_;refine ⟨⟨i + 1,by omega,OY,HC,rfl,by simpa only [aG,Nc,↓reduceIte] using Rx⟩,?_⟩;simp only [Cq,aG,↓reduceIte];omega
    ·have cN : ¬ (i : Int) < (ls.length : Int):=(by omega);obtain rfl : i = ls.length:=(by omega);rw [List.take_of_length_le (Nat.le_refl _)] at tG;refine jB (Ai @HC (Ai @Cq (decide_eq_false cN))) ?_;refine wK fun K2 aX=>?_;refine jF ?_;refine aB ?_;simp only [av,aq,if_true];clear aX K2;refine hK _ _ ?_;clear hK K;generalize tR : E2 6 = r6 at tG;refine jB @tR ?_;refine jI ?_;exact ⟨_,_,AV.aL.refl _,AS.le.refl _,tG⟩
theorem gO {s s' : AS} {l : List UInt8} {r : AV} (h : kW s l r s') (h0 : l≠[]) : ∃ t e,r = .sl 1 l.length (l.map aw) (.own t e):=by
 rcases h.2 with ⟨rfl,_⟩ | ⟨t,e,_,_,rfl⟩
 ·exact absurd rfl h0
 ·exact ⟨t,e,rfl⟩
theorem Jr (a : Nat) : m8 (a : Int) 64 = ((a % 64 : Nat) : Int):=vK a 64
theorem Gd (n j : Nat) (h : j < 8) : (Sha.yi n)[j]? = some (UInt8.ofNat (8 * n / 2 ^ (8 * (7 - j)))):=by
 have : j = 0∨j = 1∨j = 2∨j = 3∨j = 4∨j = 5∨j = 6∨j = 7:=(by omega);rcases this with rfl | rfl | rfl | rfl | rfl | rfl | rfl | rfl <;> simp [Sha.yi]
theorem Ge {α : Type} (l : List α) (j : Nat) (x : α) (h : l[j]? = some x) : l.take (j + 1) = l.take j ++ [x]:=by
 obtain ⟨h1,h2⟩:=List.getElem?_eq_some_iff.1 h;rw [List.take_succ_eq_append_getElem h1,h2]
theorem yD (x : Nat) : aw (UInt8.ofNat x) = .v (.int .u8 (ee .u8 (x : Int))):=by
 rw [lC rfl];simp [aw,IntKind.bits]
theorem P7 (n j : Nat) (hj : j < 8) (hn : n≤2 ^ 45) : lW .i64 (kO .i64 8 (n : Int)) (kO .i64 8 ((7 - j : Nat) : Int)) = ((8 * n / 2 ^ (8 * (7 - j)) : Nat) : Int):=by
 rw [fh (by omega),fh (by omega),show (8 : Int) * (n : Int) = ((8 * n : Nat) : Int) from by omega,show (8 : Int) * ((7 - j : Nat) : Int) = ((8 * (7 - j) : Nat) : Int) from by omega,vJ];simp only [IntKind.bits];rw [Nat.min_eq_left (by omega)]
theorem Ry {a b : Int} (h : a≠b) : (a != b) = true:=by simpa using h
theorem Rz {a b : Int} (h : a = b) : (a != b) = false:=by simpa using h
theorem P8 (n : Nat) (hn : n≤2 ^ 45) (j : Nat) (hj : j < 8) : ¬ (kO .i64 8 ((7 - j : Nat) : Int) < 0):=by
 rw [fh (by omega)];omega
theorem D9 (l : List UInt8) (hl : l.length≤2 ^ 44) (s s1 : AS) (r0 : AV) (h : kW s l r0 s1) :
  ah prog Γ 99 [r0] s1 (fun r s'=>kW s (Sha.pad l) r s'):=by
 refine ab func99 rfl ntmps99 results99 (by simp) ?_;refine jA ?_;refine wS fun K hK=>?_;have hc : ∀ E : Env,E 0 = r0→E 3 = .v (.int .i64 l.length)→K E s1:=by
  intro E e0 e3;refine hK _ _ ?_;clear hK K;refine wS fun K hK=>?_;simp only [↓DN,Qa,Qb,Qc,Qd,Qe,Qf,Qg,Qh,reduceCtorEq,↓reduceIte,Na,Nb,Nc,Nk,Nf,Ng,Nh,Za,Zb,Zc,TT,e0,List.replicate_one,Nat.lt_irrefl];refine eT (ds:=[128]) h rfl rfl T.c5 T.b5 (by simp; omega) ?_;intro r2 s2 h2;refine hK _ _ ?_;clear hK K;refine wK fun K hK=>?_;refine ag ?_;refine aH (fun E s2=>∃ k : Nat,k≤Sha.ix l.length∧E 3 = .v (.int .i64 l.length)∧kW s (l ++ [128] ++ List.replicate k 0) (E 0) s2)
   (fun E s2=>match E 0 with | .sl _ n _ _=>l.length + 1 + Sha.ix l.length - n | _=>0) ?_ ?_
  ·exact ⟨0,Nat.zero_le _,e3,by simpa only [aG,↓reduceIte,List.replicate_zero,List.append_nil] using h2⟩
  ·rintro E2 s3 ⟨k,hk,g3,tG⟩ -
   refine wK fun K2 aX=>?_;obtain ⟨t,e,g0⟩:=gO tG (by simp);have hlen : (l ++ [128] ++ List.replicate k 0).length = l.length + 1 + k:=(by simp; omega);generalize hL : l ++ [128] ++ List.replicate k 0 = L at *
   have hLn : L≠[]:=(by intro e'; rw [e'] at hlen; simp only [List.length_nil] at hlen; omega);by_cases ll : k = Sha.ix l.length
   ·have h56 : L.length % 64 = 56:=(by rw [hlen,ll,Sha.ix]; omega);have hb:=Rz (show ((L.length % 64 : Nat) : Int) = 56 by omega);refine jB (Ai @g0 (Ai @Jr @hb)) ?_;refine wC fun X Y hX hY=>?_;refine jP (Ai @DB @hb) ?_;refine hY ?_;clear hX hY X Y;refine aB ?_;simp only [av,aq,if_true];clear aX K2;refine hK _ _ ?_;clear hK K;rw [← g0];refine wK fun K hK=>?_;refine jA ?_;refine ag ?_;refine aH (fun E s2=>∃ j : Nat,j≤8∧E 3 = .v (.int .i64 l.length)∧E 4 = .v (.int .i64 ((7 : Int) - j))∧kW s (L ++ (Sha.yi l.length).take j) (E 0) s2)
     (fun E s2=>match E 4 with | .v (.int _ i)=>(i + 1).toNat | _=>0) ?_ ?_
    ·exact ⟨0,by omega,g3,rfl,by simpa only [aG,Nc,↓reduceIte,List.take_zero,List.append_nil] using tG⟩
    ·rintro E3 s4 ⟨j,hj,f3,f4,yj⟩ -
     refine wK fun K2 aX=>?_;obtain ⟨t',e',f0⟩:=gO yj (by simp [hLn]);by_cases gh : j < 8
     ·have bK : (0 : Int)≤(7 : Int) - j:=(by omega);refine jB (Ai @f4 (decide_eq_true bK)) ?_;refine jE ?_;refine ad ?_;refine aX _ _ ?_;clear aX K2;refine wK fun K3 bB=>?_;refine ag ?_;have e7 : (7 : Int) - j = ((7 - j : Nat) : Int):=(by omega);rw [e7] at f4;have zi:=P8 l.length (by omega) j gh;have TC:=P7 l.length j gh (by omega);generalize tR : E3 0 = r6 at yj;refine wE fun K hK=>?_;simp only [↓DN,Qa,Qb,Qc,Qd,Qe,Qf,Qg,Qh,reduceCtorEq,↓reduceIte,Na,Nb,Nc,Nk,Nf,Ng,Nh,Za,Zb,Zc,TT,tR,f3,f4,zi,TC,List.replicate_one,Nat.lt_irrefl];refine eT (ds:=[UInt8.ofNat (8 * l.length / 2 ^ (8 * (7 - j)))]) yj rfl (by rw [List.map_cons,yD]; rfl) T.c5 T.b5 (by rw [List.length_append,List.length_take,hlen]; unfold Sha.ix at hk; simp only [List.length_cons,List.length_nil]; omega) ?_;intro r2 s5 h5;rw [List.append_assoc,← Ge _ _ _ (Gd l.length j gh)] at h5;refine hK _ _ ?_;clear hK K;simp only [av,aq,if_true,if_false];refine bB _ _ ?_;clear bB K3;have xcB : ed .i64 ((7 - j : Nat) : Int) 1 = (7 : Int) - ((j + 1 : Nat) : Int):=by
       rw [b6 (by omega)];omega
      refine jD (Ai @f4 @xcB) ?_;refine ⟨⟨j + 1,by omega,f3,rfl,by simpa only [aG,Nc,↓reduceIte] using h5⟩,?_⟩;simp only [f4,aG,↓reduceIte];omega
     ·have bK : ¬ (0 : Int)≤(7 : Int) - j:=(by omega);obtain rfl : j = 8:=(by omega);refine jB (Ai @f4 (decide_eq_false bK)) ?_;refine jF ?_;refine aB ?_;simp only [av,aq,if_true];clear aX K2;refine hK _ _ ?_;clear hK K;have gC : L ++ (Sha.yi l.length).take 8 = Sha.pad l:=by
       rw [← hL,ll,Sha.pad,show (Sha.yi l.length).take 8 = Sha.yi l.length from rfl];simp
      rw [gC] at yj;generalize tR : E3 0 = r6 at yj;refine jB @tR ?_;refine jI ?_;exact ⟨_,_,AV.aL.refl _,AS.le.refl _,yj⟩
   ·have h56 : L.length % 64≠56:=(by rw [hlen]; unfold Sha.ix at hk ll; omega);have hb:=Ry (show ((L.length % 64 : Nat) : Int)≠56 by omega);refine jB (Ai @g0 (Ai @Jr @hb)) ?_;refine wC fun X Y hX hY=>?_;refine jP (Ai @DB @hb) ?_;refine hX ?_;clear hX hY X Y;refine ad ?_;refine aX _ _ ?_;clear aX K2;refine ag ?_;generalize tR : E2 0 = r6 at tG;refine wE fun K hK=>?_;simp only [↓DN,Qa,Qb,Qc,Qd,Qe,Qf,Qg,Qh,reduceCtorEq,↓reduceIte,Na,Nb,Nc,Nk,Nf,Ng,Nh,Za,Zb,Zc,TT,tR,List.replicate_one,Nat.lt_irrefl];refine eT (ds:=[0]) tG rfl rfl T.c5 T.b5 (by rw [hlen]; unfold Sha.ix at hk; simp; omega) ?_;intro r2 s2 h2;have hL2 : L ++ [0] = l ++ [128] ++ List.replicate (k + 1) 0:=(by rw [← hL,List.replicate_succ',List.append_assoc _ (List.replicate k 0)]);rw [hL2] at h2;refine hK _ _ ?_;clear hK K;simp only [av,aq,if_true,if_false];obtain ⟨t2,e2,q0⟩:=gO h2 (by simp);refine ⟨⟨k + 1,by omega,g3,by simpa only [aG,↓reduceIte] using h2⟩,?_⟩;rw [tR] at g0;simp only [aG,↓reduceIte,tR,q0,g0,List.length_append,List.length_replicate,List.length_cons,List.length_nil,hlen];omega
 rcases h.2 with ⟨rfl,rfl⟩ | ⟨t,e,_,_,rfl⟩
 ·refine jM ?_;exact hc _ (by simp only [aG,dE,Nc,↓reduceIte]; rfl) rfl
 ·refine jM ?_;exact hc _ (by simp only [aG,dE,Nc,↓reduceIte]; rfl) rfl
end Go.Proofs.YtcjifoccjlpapaaGreatDoor
