/- Contracts of functions, each walked once; each theorem states its conditions. -/
import Derived.Test.YtbiefppedlodiaaGreatDoorAMp6
import Derived.Test.YtbiefppedlodiaaGreatDoorW1
import Derived.Test.YtbiefppedlodiaaGreatDoorW3
import Derived.Test.YtbiefppedlodiaaGreatDoorAMp5
import Derived.Test.YtbiefppedlodiaaGreatDoorW2
set_option linter.unusedSimpArgs false
set_option linter.unusedVariables false
open Nat renaming reduceLT → Na, reduceLeDiff → Nb, reduceEqDiff → Nc, reduceAdd → Nk, reduceMul → Nf, reducePow → Ng, reduceSub → Nh, reduceBEq → Nz
open Int renaming reduceLT → Za, reduceLE → Zb, reduceToNat → Zc
open And renaming intro → Ai
open Go.AM renaming ashift → Qa, aconv → Qb, aindexAddr → Qc, aindex → Qd, aslice → Qe, abuiltin → Qf, awp_reg_seq → wS, awp_reg_end → wE, awp_seq_k → wK, awp_cond_k → wC
open Go.AM.AV renaming cells → Qg, one → Qh
set_option maxRecDepth 100000
set_option maxHeartbeats 8000000
namespace Go.Proofs.YtbiefppedlodiaaGreatDoor
open Go Go.AM Go.Proofs Tryz
variable {Γ : Nat→List AV}
theorem DL {t : List al} : bw t↔aU t≠0∧(∀ i,i < t.length→sA t i)∧(aU t = 1∨0 < gD (cF t) (aU t / 2) (aU t - aU t / 2)):=by
 unfold bw;constructor
 ·rintro ⟨a,b,c⟩;exact ⟨a,(DH a).2 b,c.imp id fun q=>by rw [qP (xz a)]; exact q⟩
 ·rintro ⟨a,b,c⟩;exact ⟨a,(DH a).1 b,c.imp id fun q=>by rw [← qP (xz a)]; exact q⟩
theorem tW (t : List al) (ht : dS t) (s : AS) : ai prog Γ 16 [aZ t] s (fun r s'=>r = .v (.bool (decide (bw t)))∧s' = s):=by
 refine aa func16 rfl ntmps16 results16 (by simp) ?_;have lj:=ht.1;have yD:=fun s=>nQ (Γ:=Γ) t lj s;have hmc:=fun i s=>eJ (Γ:=Γ) t lj i s;have A9:=fun name s=>xK (Γ:=Γ) t lj name s;have H6:=fun a k h s=>xJ (Γ:=Γ) t lj a k h s;have hrn:=fun i s=>tU (Γ:=Γ) (nd t i) (ht.nd i).1 s;have hul:=fun i=>(ht.nd i).1;have dw:=fun i (h : i < t.length)=>dm (t:=t) h;have WG:=FB t;have Ks : aU t≠0→t.length = 2 * aU t - 1:=fun h=>(bT.resolve_left h).2;have NN : aU t = 0→decide (bw t) = false:=fun h=>decide_eq_false fun k=>k.1 h;have NP : ∀ i,i < t.length→¬ sA t i→decide (bw t) = false:=fun i h1 h2=>decide_eq_false fun k=>h2 ((DL.1 k).2.1 i h1);have pK : aU t≠0→(∀ i,i < t.length→sA t i)→decide (bw t) = (((aU t : Int) == 1) || decide ((0 : Int) < (gD (cF t) (aU t / 2) (aU t - aU t / 2) : Int))):=by
  intro h1 h2;rw [Bool.eq_iff_iff,decide_eq_true_iff,Bool.or_eq_true,beq_iff_eq,decide_eq_true_iff,DL];constructor
  ·rintro ⟨_,_,h3⟩;exact h3.imp (fun q=>by omega) (fun q=>by omega)
  ·intro h3;exact ⟨h1,h2,h3.imp (fun q=>by omega) (fun q=>by omega)⟩
 unfold aZ at *
 generalize aQ al.cells t = X at *
 generalize decide (bw t) = Xm at *
 refine jA ?_;refine jK (yD _) ?_;rintro s1 rfl;refine wK fun K hK=>?_;by_cases hz : aU t = 0
 ·refine jB (M7 hz) ?_;refine jE ?_;refine jA ?_;refine jI ?_;rw [NN hz];exact jW ⟨rfl,rfl⟩
 ·refine jB (Gw hz) ?_;refine jF ?_;refine ab ?_;refine hK _ _ ?_;clear hK K;have hlen:=Ks hz;refine wK fun K hK=>?_;refine jA ?_;refine ag ?_;refine aC (fun E s2=>∃ i : Nat,i≤t.length∧(∀ j,j < i→sA t j)∧E 4 = .v (.int .i64 i)∧E 3 = .v (.int .i64 (aU t))∧E 0 = .sl 5 t.length X .any∧s2 = s1)
   (fun E _=>match E 4 with | .v (.int _ i)=>t.length - i.toNat | _=>0) ?_ ?_
  ·exact ⟨0,Nat.zero_le _,fun j h=>absurd h (Nat.not_lt_zero _),rfl,rfl,rfl,rfl⟩
  ·rintro E1 s2 ⟨i,hi,bR,g4,g3,g0,rfl⟩ -
   refine wK fun K2 aV=>?_;by_cases aX : i < t.length
   ·refine jB (Ai @g4 (Ai @g0 (Ai @ax (decide_eq_true aX)))) ?_;refine jE ?_;refine ab ?_;refine aV _ _ ?_;clear aV K2;refine wK fun K3 br=>?_;refine ag ?_;have xL:=NP i aX;have eI : sA t i↔(nd t i).right∧((nd t i).kind = 0∨((nd t i).kind = 1↔i % 2 = 0))∧((nd t i).kind = 1→qQ t (nd t i).name = ((i / 2 : Nat) : Int))∧∀ u ∈ (nd t i).jk,(kR (i : Int)).1≤u∧u≤(kR (i : Int)).2∧cF t u:=Iff.rfl;have iu:=dw i aX;have RL:=hrn i;have xaU:=hul i;have NQ:=fun s=>A9 (nd t i).name s;have Zr:=fun s=>mu (Γ:=Γ) (i : Int) s;generalize (kR (i : Int)).1 = ua at *
    generalize (kR (i : Int)).2 = ub at *
    generalize qQ t (nd t i).name = NI at *
    generalize nd t i = N at *
    obtain ⟨nk,nm,ny,n8,nu⟩:=N;unfold al.cells at iu RL;simp only at NQ xaU eI;unfold aH at iu RL;have cz : (0 : Int)≤(i : Int):=(by omega);have p6 : il (i : Int) 2 = ((i % 2 : Nat) : Int):=kK i 2;have JT : kA .i64 (i : Int) 2 = ((i / 2 : Nat) : Int):=eG i (by omega);have bb : ((true != true) = false∧(false != false) = false)∧((true != false) = true∧(false != true) = true):=⟨⟨rfl,rfl⟩,rfl,rfl⟩;have bc : ((true == true) = true∧(false == false) = true)∧((true == false) = false∧(false == true) = false):=⟨⟨rfl,rfl⟩,rfl,rfl⟩;have bX : sA t i→∀ (E : Env),E 4 = .v (.int .i64 i)→E 3 = .v (.int .i64 (aU t))→E 0 = .sl 5 t.length X .any→K3 E s2:=by
     intro hg E f4 f3 f0;refine br _ _ ?_;clear br K3;refine jD (Ai @f4 (bj i (by omega))) ?_;refine ⟨⟨i + 1,by omega,?_,rfl,f3,f0,rfl⟩,?_⟩
     ·intro j hj;by_cases e : j = i
      ·rw [e]; exact hg
      ·exact bR j (by omega)
     ·simp only [g4,aF,↓reduceIte];omega
    clear br;refine aY 5 (by decide) ?_;intro K5 kt;refine jN (Ai @g0 (Ai @g4 (Ai @ax (Ai @aX (Ai @cz @iu))))) ?_;intro o1 h1;refine kt _ _ o1 _ rfl h1 ?_;clear kt K5 h1;refine wK fun K4 ee=>?_;have h4 : (al.right ⟨nk,nm,ny,n8,nu⟩∧(nk = 0∨(nk = 1↔i % 2 = 0)))→∀ (E : Env),E 4 = .v (.int .i64 i)→E 3 = .v (.int .i64 (aU t))→E 0 = .sl 5 t.length X .any→E 5 = .dc [.v (.int .i64 nk),.sl 1 nm.length (nm.map ah) .any,.v (.int .u64 ny),.sl 1 n8.length (n8.map ah) .any,.sl 1 nu.length (nu.map aM) .any]→K4 E s2:=by
     clear g4 g3 g0;rintro ⟨gr,gk⟩ E g4 g3 g0 g5;refine ee _ _ ?_;clear ee K4;refine wK fun K6 kV=>?_;have h6 : (nk = 1→NI = ((i / 2 : Nat) : Int))→∀ (E : Env),E 4 = .v (.int .i64 i)→E 3 = .v (.int .i64 (aU t))→E 0 = .sl 5 t.length X .any→E 5 = .dc [.v (.int .i64 nk),.sl 1 nm.length (nm.map ah) .any,.v (.int .u64 ny),.sl 1 n8.length (n8.map ah) .any,.sl 1 nu.length (nu.map aM) .any]→K6 E s2:=by
      clear g4 g3 g0 g5;intro gn E g4 g3 g0 g5;refine kV _ _ ?_;clear kV K6;refine jS @g4 fun K hK=>?_;refine ad (Zr _) ?_;rintro r s3 ⟨rfl,rfl⟩;refine jR hK ?_;clear hK K;refine jA ?_;refine ag ?_;refine aC (fun E s4=>∃ k : Nat,k≤nu.length∧(∀ u ∈ nu.take k,ua≤u∧u≤ub∧cF t u)∧E 8 = .v (.int .i64 k)∧E 6 = .v (.int .i64 ua)∧E 7 = .v (.int .i64 ub)∧E 4 = .v (.int .i64 i)∧E 3 = .v (.int .i64 (aU t))∧E 0 = .sl 5 t.length X .any∧E 5 = .dc [.v (.int .i64 nk),.sl 1 nm.length (nm.map ah) .any,.v (.int .u64 ny),.sl 1 n8.length (n8.map ah) .any,.sl 1 nu.length (nu.map aM) .any]∧s4 = s3)
       (fun E _=>match E 8 with | .v (.int _ i)=>nu.length - i.toNat | _=>0) ?_ ?_
      ·exact ⟨0,Nat.zero_le _,(by intro u hu; simp at hu),rfl,rfl,rfl,g4,g3,g0,g5,rfl⟩
      ·clear g4 g3 g0 g5;rintro E2 s4 ⟨k,hk,hku,g8,g6,g7,g4,g3,g0,g5,rfl⟩ -
       refine wK fun K7 GJ=>?_;by_cases sr : k < nu.length
       ·refine jB (Ai @g8 (Ai @g5 (Ai @ax (decide_eq_true sr)))) ?_;refine jE ?_;refine ab ?_;refine GJ _ _ ?_;clear GJ K7;refine wK fun K8 hK8=>?_;refine ag ?_;have hgk : (0 : Int)≤(k : Int):=(by omega);have RM:=eU sr;have Ku : nu[k] ∈ nu:=List.getElem_mem sr;have xaX : nu.take (k + 1) = nu.take k ++ [nu[k]]:=List.take_succ_eq_append_getElem sr;generalize nu[k] = u at *
        have Xp : (ua≤u∧u≤ub∧cF t u)→∀ (E : Env),E 8 = .v (.int .i64 k)→E 6 = .v (.int .i64 ua)→E 7 = .v (.int .i64 ub)→E 4 = .v (.int .i64 i)→E 3 = .v (.int .i64 (aU t))→E 0 = .sl 5 t.length X .any→E 5 = .dc [.v (.int .i64 nk),.sl 1 nm.length (nm.map ah) .any,.v (.int .u64 ny),.sl 1 n8.length (n8.map ah) .any,.sl 1 nu.length (nu.map aM) .any]→K8 E s4:=by
         intro hu E f8 f6 f7 f4 f3 f0 f5;refine hK8 _ _ ?_;clear hK8 K8;refine jD (Ai @f8 (bj k (by omega))) ?_;refine ⟨⟨k + 1,by omega,?_,rfl,f6,f7,f4,f3,f0,f5,rfl⟩,?_⟩
         ·intro v hv;rw [xaX,List.mem_append,List.mem_singleton] at hv;rcases hv with hv | rfl
          ·exact hku v hv
          ·exact hu
         ·simp only [g8,aF,↓reduceIte];omega
        clear hK8;refine jB (Ai @g5 (Ai @g8 (Ai @ax (Ai @sr (Ai @hgk (Ai @RM @aM.eq_1)))))) ?_;by_cases u1 : u < ua
        ·refine jB (Ai @g6 (decide_eq_true u1)) ?_;refine jE ?_;refine jA ?_;refine jI ?_;rw [xL (fun q=>by have:=((eI.1 q).2.2.2 u Ku).1; omega)];exact jW ⟨rfl,rfl⟩
        ·by_cases u2 : ub < u
         ·refine jB (Ai @g6 (Ai @g7 (Ai (decide_eq_false u1) (decide_eq_true u2)))) ?_;refine jE ?_;refine jA ?_;refine jI ?_;rw [xL (fun q=>by have:=((eI.1 q).2.2.2 u Ku).2.1; omega)];exact jW ⟨rfl,rfl⟩
         ·refine jS (Ai @g6 (Ai @g7 (Ai @g0 (Ai (decide_eq_false u1) (decide_eq_false u2))))) fun K hK=>?_;refine ad (hmc _ _) ?_;rintro r s5 ⟨rfl,rfl⟩;by_cases u3 : cF t u
          ·rw [decide_eq_true u3];refine jR hK ?_;clear hK K;refine jF ?_;refine ab ?_;simp only [ar,az,if_true,if_false];exact Xp ⟨by omega,by omega,u3⟩ _ g8 g6 g7 g4 g3 g0 g5
          ·rw [decide_eq_false u3];refine jR hK ?_;clear hK K;refine jE ?_;refine jA ?_;refine jI ?_;rw [xL (fun q=>u3 ((eI.1 q).2.2.2 u Ku).2.2)];exact jW ⟨rfl,rfl⟩
       ·refine jB (Ai @g8 (Ai @g5 (Ai @ax (decide_eq_false sr)))) ?_;refine jF ?_;refine aA ?_;simp only [az,ar,if_true,if_false];rw [List.take_of_length_le (by omega)] at hku;exact bX (eI.2 ⟨gr,gk,gn,hku⟩) _ g4 g3 g0
     clear kV;by_cases k1 : nk = 1
     ·refine jS (Ai @g5 (Ai (mr k1) @g0)) fun K hK=>?_;refine ad (NQ _) ?_;rintro r s3 ⟨rfl,rfl⟩;by_cases hn : NI = ((i / 2 : Nat) : Int)
      ·refine jV (Ai @g4 (Ai @lV (Ai @JT (eqI hn)))) hK ?_;clear hK K;refine jF ?_;refine ab ?_;exact h6 (fun _=>hn) _ g4 g3 g0 g5
      ·refine jV (Ai @g4 (Ai @lV (Ai @JT (SY hn)))) hK ?_;clear hK K;refine jE ?_;refine jA ?_;refine jI ?_;rw [xL (fun q=>hn ((eI.1 q).2.2.1 k1))];exact jW ⟨rfl,rfl⟩
     ·refine jB (Ai @g5 (lU k1)) ?_;refine jF ?_;refine ab ?_;exact h6 (fun q=>absurd q k1) _ g4 g3 g0 g5
    clear ee;refine jQ fun K hK=>?_;refine ad (RL _) ?_;rintro r s3 ⟨rfl,rfl⟩;by_cases gr : al.right ⟨nk,nm,ny,n8,nu⟩
    ·rw [decide_eq_true gr];by_cases k0 : nk = 0
     ·refine jV (eqI k0) hK ?_;clear hK K;refine jF ?_;refine ab ?_;exact h4 ⟨gr,.inl k0⟩ _ g4 g3 g0 rfl
     ·by_cases k1 : nk = 1
      ·by_cases kp : i % 2 = 0
       ·have t2 : (il (i : Int) 2 == 0) = true:=(by rw [p6]; exact mr (by omega));simp only [↓DM,bY,DX,Nz,↓DN,Qa,Qb,Qc,Qd,Qe,Qf,Qg,Qh,reduceCtorEq,↓reduceIte,Na,Nb,Nc,Nk,Nf,Ng,Nh,Za,Zb,Zc,TT,SY k0,mr k1,g4,lV,t2,bb,bc];refine hK _ _ ?_;clear hK K;refine jF ?_;refine ab ?_;exact h4 ⟨gr,.inr ⟨fun _=>kp,fun _=>k1⟩⟩ _ g4 g3 g0 rfl
       ·have t2 : (il (i : Int) 2 == 0) = false:=(by rw [p6]; exact lU (by omega));simp only [↓DM,bY,DX,Nz,↓DN,Qa,Qb,Qc,Qd,Qe,Qf,Qg,Qh,reduceCtorEq,↓reduceIte,Na,Nb,Nc,Nk,Nf,Ng,Nh,Za,Zb,Zc,TT,SY k0,mr k1,g4,lV,t2,bb,bc];refine hK _ _ ?_;clear hK K;refine jE ?_;refine jA ?_;refine jI ?_;rw [xL (fun q=>by rcases (eI.1 q).2.1 with h | h; exact k0 h; exact kp (h.1 k1))];exact jW ⟨rfl,rfl⟩
      ·by_cases kp : i % 2 = 0
       ·have t2 : (il (i : Int) 2 == 0) = true:=(by rw [p6]; exact mr (by omega));simp only [↓DM,bY,DX,Nz,↓DN,Qa,Qb,Qc,Qd,Qe,Qf,Qg,Qh,reduceCtorEq,↓reduceIte,Na,Nb,Nc,Nk,Nf,Ng,Nh,Za,Zb,Zc,TT,SY k0,lU k1,g4,lV,t2,bb,bc];refine hK _ _ ?_;clear hK K;refine jE ?_;refine jA ?_;refine jI ?_;rw [xL (fun q=>by rcases (eI.1 q).2.1 with h | h; exact k0 h; exact k1 (h.2 kp))];exact jW ⟨rfl,rfl⟩
       ·have t2 : (il (i : Int) 2 == 0) = false:=(by rw [p6]; exact lU (by omega));simp only [↓DM,bY,DX,Nz,↓DN,Qa,Qb,Qc,Qd,Qe,Qf,Qg,Qh,reduceCtorEq,↓reduceIte,Na,Nb,Nc,Nk,Nf,Ng,Nh,Za,Zb,Zc,TT,SY k0,lU k1,g4,lV,t2,bb,bc];refine hK _ _ ?_;clear hK K;refine jF ?_;refine ab ?_;exact h4 ⟨gr,.inr ⟨fun h=>absurd h k1,fun h=>absurd h kp⟩⟩ _ g4 g3 g0 rfl
    ·rw [decide_eq_false gr];refine jR hK ?_;clear hK K;refine jE ?_;refine jA ?_;refine jI ?_;rw [xL (fun q=>gr (eI.1 q).1)];exact jW ⟨rfl,rfl⟩
   ·refine jB (Ai @g4 (Ai @g0 (Ai @ax (decide_eq_false aX)))) ?_;refine jF ?_;refine aA ?_;simp only [az,ar,if_true];refine hK _ _ ?_;clear hK aV K2 K;have Kt : ∀ j,j < t.length→sA t j:=fun j h=>bR j (by omega);have fL:=pK hz Kt;by_cases h1 : aU t = 1
    ·have e1:=mr (show ((aU t : Nat) : Int) = 1 by omega);rw [e1] at fL;refine jB (Ai @g3 @e1) ?_;refine jI ?_;rw [fL];exact jW ⟨rfl,rfl⟩
    ·have e1:=lU (show ¬ ((aU t : Nat) : Int) = 1 by omega);rw [e1,Bool.false_or] at fL;have e2 : kA .i64 (aU t : Int) 2 = ((aU t / 2 : Nat) : Int):=eG _ (by omega);have e3 : dC .i64 (aU t : Int) 1 = (((aU t / 2 + (aU t - aU t / 2) : Nat)) : Int) - 1:=(by rw [cf (by omega)]; omega);have hcm:=fun s=>H6 (aU t / 2) (aU t - aU t / 2) (by omega) s;generalize (((aU t / 2 + (aU t - aU t / 2) : Nat)) : Int) - 1 = LL at *
     refine jS (Ai @g3 (Ai @e1 (Ai @lV (Ai @e2 (Ai @e3 @g0))))) fun K hK=>?_;refine ad (hcm _) ?_;rintro r s3 ⟨rfl,rfl⟩;refine jR hK ?_;clear hK K;refine jI ?_;rw [fL];exact jW ⟨rfl,rfl⟩
theorem xM (s : AS) : ai prog Γ 51 [bO] s (fun r s'=>r = aj [] .any∧s' = s):=by
 refine aa func51 rfl ntmps51 results51 (by simp) ?_;unfold bO;refine jA ?_;refine wK fun K hK=>?_;refine jA ?_;refine jE ?_;refine jA ?_;refine jI ?_;exact ⟨_,_,AV.aI,AS.le.refl _,rfl,rfl⟩
theorem zj (l : List UInt8) (s : AS) (hl : l.length≤2 ^ 45) : ai prog Γ 51 [aj l .no] s (fun r s'=>r = aj l .any∧s' = s):=by
 refine aa func51 rfl ntmps51 results51 (by simp) ?_;unfold aj;refine jA ?_;refine wK fun K hK=>?_;refine jB @and_false ?_;refine jF ?_;refine ab ?_;refine hK _ _ ?_;clear hK K;by_cases h0 : l.length = 0
 ·have ta : l = []:=List.eq_nil_of_length_eq_zero h0;subst ta;refine jA ?_;refine jI ?_;exact ⟨_,s,AV.bQ,AS.le.refl s,rfl,rfl⟩
 ·refine jS @h0 fun K hK=>?_;refine ⟨by omega,by omega,fun t ht=>hK _ _ ?_⟩;clear hK K;refine jI ?_;exact ⟨_,s,AV.bQ,AS.bq (AS.le.refl s) ht 0,rfl,rfl⟩
theorem fB (l : List UInt8) (s : AS) (hl : l.length≤2 ^ 45) : ai prog Γ 51 [aj l .any] s (fun r s'=>r = aj l .any∧s' = s) :=
 ai.any (pre:=[]) (post:=[]) (fun e=>by subst e; exact xM s) (zj l s hl)
theorem fi (hG : Γ 3 = eS.map nH) (t : List al) (ht : dS t) (s : AS) : ai prog Γ 45 [aZ t] s (fun r s'=>r = .v (.int .i64 (if bw t then aU t else 0 : Nat))∧s' = s):=by
 refine aa func45 rfl ntmps45 results45 (by simp) ?_;have hr:=fun s=>iX (Γ:=Γ) hG t ht s;have hl:=fun s=>nn (Γ:=Γ) t ht.1 s;unfold aZ at *
 generalize aQ al.cells t = X at *
 refine jA ?_;refine wK fun K hK=>?_;refine jQ fun K hK=>?_;refine ad (hr _) ?_;rintro r s1 ⟨rfl,rfl⟩;by_cases h : bw t
 ·rw [decide_eq_true h];refine jR hK ?_;clear hK K;refine jF ?_;refine ab ?_;refine hK _ _ ?_;clear hK K;refine jK (hl _) ?_;rintro s2 rfl;refine jI ?_;rw [if_pos h];exact jW ⟨rfl,rfl⟩
 ·rw [decide_eq_false h];refine jR hK ?_;clear hK K;refine jE ?_;refine jA ?_;refine jI ?_;rw [if_neg h];exact jW ⟨rfl,rfl⟩
def fo (x i : Int) : Bool:=decide ((kR x).1≤i∧i≤(kR x).2)
theorem l8 (hG : Γ 3 = eS.map nH) (x i : Int) (s : AS) : ai prog Γ 73 [.v (.int .i64 x),.v (.int .i64 i)] s (fun r s'=>r = .v (.bool (fo x i))∧s' = s):=by
 refine aa func73 rfl ntmps73 results73 (by simp) ?_;have hu:=fun s=>qc (Γ:=Γ) hG x s;unfold fo;generalize kR x = U at *
 refine jA ?_;refine jK (hu _) ?_;rintro s1 rfl;by_cases h : U.1≤i
 ·refine jB (decide_eq_true h) ?_;refine jI ?_;exact jW ⟨by simp [h],rfl⟩
 ·refine jB (decide_eq_false h) ?_;refine jI ?_;exact jW ⟨by simp [h],rfl⟩
theorem tX (x i : Int) (s : AS) : ai prog Γ 84 [.v (.int .i64 x),.v (.int .i64 i)] s (fun r s'=>r = .v (.bool (fo x i))∧s' = s):=by
 refine aa func84 rfl ntmps84 results84 (by simp) ?_;have hu:=fun s=>mu (Γ:=Γ) x s;unfold fo;generalize kR x = U at *
 refine jA ?_;refine jK (hu _) ?_;rintro s1 rfl;by_cases h : U.1≤i
 ·refine jB (decide_eq_true h) ?_;refine jI ?_;exact jW ⟨by simp [h],rfl⟩
 ·refine jB (decide_eq_false h) ?_;refine jI ?_;exact jW ⟨by simp [h],rfl⟩
theorem ia (t : List al) (ht : t.length≤2 ^ 61) (i : Int) (s : AS) : ai prog Γ 70 [aZ t,.v (.int .i64 i)] s (fun r s'=>r = .v (.bool (decide (cF t i)))∧s' = s):=by
 refine aa func70 rfl ntmps70 results70 (by simp) ?_;unfold aZ;have e0 : kA .i64 (t.length : Int) 2 = ((t.length / 2 : Nat) : Int):=eG _ (by omega);refine jA ?_;by_cases h0 : 0≤i
 ·obtain ⟨n,rfl⟩:=Int.eq_ofNat_of_zero_le h0;by_cases h1 : n≤t.length / 2
  ·by_cases h2 : 2 * n < t.length
   ·have dw:=dm h2;have hk : decide (cF t (n : Int)) = ((nd t (2 * n)).kind == 1):=by
     rw [Bool.eq_iff_iff,decide_eq_true_iff,beq_iff_eq];unfold cF;rw [Int.toNat_natCast];exact ⟨fun k=>k.2.2,fun k=>⟨h0,by omega,k⟩⟩
    generalize nd t (2 * n) = N at *
    generalize aQ al.cells t = X at *
    obtain ⟨k,nm,y,pa,u⟩:=N;unfold al.cells at dw;have cz : (0 : Int)≤((2 * n : Nat) : Int):=(by omega);refine jB (Ai @lV (Ai (decide_eq_true h0) (Ai @e0 (Ai (decide_eq_true (show ((n : Nat) : Int)≤((t.length / 2 : Nat) : Int) by omega)) (Ai (ca n (by omega)) (Ai @ax (Ai @h2 (Ai @cz (Ai @dw (decide_eq_true h2)))))))))) ?_;refine jI ?_;rw [hk];exact jW ⟨rfl,rfl⟩
   ·have hk : decide (cF t (n : Int)) = false:=decide_eq_false fun k=>h2 (by have:=k.2.1; omega);refine jB (Ai @lV (Ai (decide_eq_true h0) (Ai @e0 (Ai (decide_eq_true (show ((n : Nat) : Int)≤((t.length / 2 : Nat) : Int) by omega)) (Ai (ca n (by omega)) (Ai @ax (decide_eq_false h2))))))) ?_;refine jI ?_;rw [hk];exact jW ⟨rfl,rfl⟩
  ·have hk : decide (cF t (n : Int)) = false:=decide_eq_false fun k=>h1 (by have:=k.2.1; omega);refine jB (Ai @lV (Ai (decide_eq_true h0) (Ai @e0 (decide_eq_false (show ¬ ((n : Nat) : Int)≤((t.length / 2 : Nat) : Int) by omega))))) ?_;refine jI ?_;rw [hk];exact jW ⟨rfl,rfl⟩
 ·have hk : decide (cF t i) = false:=decide_eq_false fun k=>h0 k.1;refine jB (Ai @lV (decide_eq_false h0)) ?_;refine jI ?_;rw [hk];exact jW ⟨rfl,rfl⟩
def gY (t : List al) (i : Int) : Int:=if bw t then (if cF t i then 0 else 43) else 40
theorem oV (hG : Γ 3 = eS.map nH) (t : List al) (ht : dS t) (i : Int) (s : AS) : ai prog Γ 40 [aZ t,.v (.int .i64 i)] s (fun r s'=>r = .v (.int .i64 (gY t i))∧s' = s):=by
 refine aa func40 rfl ntmps40 results40 (by simp) ?_;have hr:=fun s=>iX (Γ:=Γ) hG t ht s;have hm:=fun s=>ia (Γ:=Γ) t ht.1 i s;unfold aZ at *
 obtain ⟨V,hV⟩ : ∃ V,V = gY t i:=⟨_,rfl⟩;rw [← hV];unfold gY at hV;generalize aQ al.cells t = X at *
 refine jA ?_;refine wK fun K hK=>?_;refine ag ?_;refine jQ fun K hK=>?_;refine ad (hr _) ?_;rintro r s1 ⟨rfl,rfl⟩;by_cases h : bw t
 ·rw [if_pos h] at hV;rw [decide_eq_true h];refine jR hK ?_;clear hK K;refine jF ?_;refine jQ fun K hK=>?_;refine ad (hm _) ?_;rintro r s2 ⟨rfl,rfl⟩;by_cases h2 : cF t i
  ·rw [if_pos h2] at hV;rw [decide_eq_true h2];refine jR hK ?_;clear hK K;refine jF ?_;refine ab ?_;simp only [az,ar];refine hK _ _ ?_;clear hK K;refine jA ?_;refine jI ?_;exact jW ⟨by rw [hV],rfl⟩
  ·rw [if_neg h2] at hV;rw [decide_eq_false h2];refine jR hK ?_;clear hK K;refine jE ?_;refine jA ?_;refine jI ?_;exact jW ⟨by rw [hV],rfl⟩
 ·rw [if_neg h] at hV;rw [decide_eq_false h];refine jR hK ?_;clear hK K;refine jE ?_;refine jA ?_;refine jI ?_;exact jW ⟨by rw [hV],rfl⟩
theorem xN (t : List al) (ht : dS t) (i : Int) (s : AS) : ai prog Γ 52 [aZ t,.v (.int .i64 i)] s (fun r s'=>r = .v (.int .i64 (gY t i))∧s' = s):=by
 refine aa func52 rfl ntmps52 results52 (by simp) ?_;have hr:=fun s=>tW (Γ:=Γ) t ht s;have hm:=fun s=>eJ (Γ:=Γ) t ht.1 i s;unfold aZ at *
 obtain ⟨V,hV⟩ : ∃ V,V = gY t i:=⟨_,rfl⟩;rw [← hV];unfold gY at hV;generalize aQ al.cells t = X at *
 refine jA ?_;refine wK fun K hK=>?_;refine jQ fun K hK=>?_;refine ad (hr _) ?_;rintro r s1 ⟨rfl,rfl⟩;by_cases h : bw t
 ·rw [if_pos h] at hV;rw [decide_eq_true h];refine jR hK ?_;clear hK K;refine jF ?_;refine ab ?_;refine hK _ _ ?_;clear hK K;refine wK fun K hK=>?_;refine jQ fun K hK=>?_;refine ad (hm _) ?_;rintro r s2 ⟨rfl,rfl⟩;by_cases h2 : cF t i
  ·rw [if_pos h2] at hV;rw [decide_eq_true h2];refine jR hK ?_;clear hK K;refine jF ?_;refine ab ?_;refine hK _ _ ?_;clear hK K;refine jA ?_;refine jI ?_;exact jW ⟨by rw [hV],rfl⟩
  ·rw [if_neg h2] at hV;rw [decide_eq_false h2];refine jR hK ?_;clear hK K;refine jE ?_;refine jA ?_;refine jI ?_;exact jW ⟨by rw [hV],rfl⟩
 ·rw [if_neg h] at hV;rw [decide_eq_false h];refine jR hK ?_;clear hK K;refine jE ?_;refine jA ?_;refine jI ?_;exact jW ⟨by rw [hV],rfl⟩
theorem hJ (hG : Γ 3 = eS.map nH) (leaf l : Nat) (hl : Fit l) (hn : leaf < l) (s : AS) : ai prog Γ 46 [.v (.int .i64 leaf),.v (.int .i64 l)] s
  (fun r s'=>r = aH (aP (cC leaf l)) .any∧s' = s):=by
 refine aa func46 rfl ntmps46 results46 (by simp) ?_;have HQ:=hl.le;have vj:=fW hl hn;have iC:=fun s=>gT (Γ:=Γ) hG leaf l hl hn s;have EK:=fun (i : Nat) (h : i < (aD leaf l).length) (s : AS)=>xF (Γ:=Γ) hG (nodeAt leaf l i) l hl (xx hl hn h).1 (xx hl hn h).2.1 s;have RN : (aP (cC leaf l)).length = (aD leaf l).length:=(by simp [bo,cC]);have Rk : ∀ i,i < (aD leaf l).length→(aP (cC leaf l)).take (i + 1) = (aP (cC leaf l)).take i ++ [((cl (nodeAt leaf l i) : Nat) : Int)]:=by
  intro i hi;rw [List.take_succ_eq_append_getElem (by rw [RN]; exact hi)];simp [aP,cC]
 have WX : (aP (aD leaf l)).length = (aD leaf l).length:=bo _;have hPg : ∀ i,i < (aD leaf l).length→(aP (aD leaf l))[i]? = some ((nodeAt leaf l (i + 1) : Nat) : Int):=by
  intro i hi;simp [aP,nodeAt,List.getD,hi]
 have Rc : nodeAt leaf l 0 = 2 * leaf:=rfl;generalize aP (cC leaf l) = S at *
 generalize aP (aD leaf l) = W at *
 generalize nodeAt leaf l = D at *
 generalize (aD leaf l).length = k at *
 refine jA ?_;refine jA ?_;refine jB (ca leaf (by omega)) ?_;refine wK fun K hK=>?_;refine jQ fun K hK=>?_;refine ad (iC _) ?_;rintro r s1 ⟨rfl,rfl⟩;refine jV @aH.eq_1 hK ?_;clear hK K;refine ag ?_;refine aC (fun E s2=>∃ (i : Nat) (x : AV),i≤k∧E 15 = .sl 1 W.length (W.map aM) .any∧E 16 = .v (.int .i64 W.length)∧E 17 = .v (.int .i64 i)∧E 1 = .v (.int .i64 l)∧E 6 = .v (.int .i64 (D i : Nat))∧E 5 = x∧dz 1 s1 s2 x i ((S.take i).map aM)∧s1.le s2)
  (fun E _=>k + 1 - nI (E 5)) ?_ ?_
 ·refine ⟨0,bO,Nat.zero_le _,rfl,rfl,rfl,rfl,?_,rfl,dz.nil _ _ _,AS.le.refl _⟩;rw [Rc];simp only [aF,Nc,↓reduceIte]
 ·rintro E1 s2 ⟨i,x,hi,g15,g16,g17,g1,g6,g5,hx,hle⟩ -
  by_cases aX : i < k
  ·have bI : ((i : Nat) : Int) < (W.length : Int):=(by omega);have h0 : (0 : Int)≤((i : Nat) : Int):=(by omega);have fJ : (List.take 1 (List.drop i (W.map aM)))[0]? = some (AV.v (.int .i64 ((D (i + 1) : Nat) : Int))):=by
    simp [List.getElem?_take,hPg i aX,aM]
   refine jB (Ai @g16 (Ai @g17 (decide_eq_true bI))) ?_;refine wK fun K2 aV=>?_;refine jE ?_;refine ab ?_;refine aV _ _ ?_;clear aV K2;refine wK fun K3 br=>?_;refine ag ?_;refine jB (Ai @g15 (Ai @g17 (Ai @bI (Ai @h0 @fJ)))) ?_;refine jS (Ai @g6 @g1) fun K hK=>?_;refine ad (EK i aX _) ?_;rintro r s3 ⟨rfl,rfl⟩;refine jR hK ?_;clear hK K;have dN:=Rk i aX;refine wK fun K4 ee=>?_;have bX : ∀ (E : Env) (s3 : AS) (x3 : AV),E 15 = .sl 1 W.length (W.map aM) .any→E 16 = .v (.int .i64 W.length)→E 17 = .v (.int .i64 i)→E 1 = .v (.int .i64 l)→E 8 = .v (.int .i64 (D (i + 1) : Nat))→E 5 = x3→dz 1 s1 s3 x3 (i + 1) ((S.take (i + 1)).map aM)→s1.le s3→K4 E s3:=by
    intro E s3 x3 f15 f16 f17 f1 f8 f5 fx BA;refine ee _ _ ?_;clear ee K4;refine jD @f8 ?_;refine br _ _ ?_;clear br K3;refine jD (Ai @f17 (bj i (by omega))) ?_;refine ⟨⟨i + 1,x3,aX,f15,f16,rfl,f1,rfl,f5,fx,BA⟩,?_⟩;have m1 : nI (E1 5) = i:=by
     rw [g5];rcases hx with ⟨rfl,rfl,_⟩ | ⟨t,e,rfl,_⟩ <;> rfl
    have m2 : nI (E 5) = i + 1:=by
     rw [f5];rcases fx with ⟨rfl,h,_⟩ | ⟨t,e,rfl,_⟩
     ·omega
     ·rfl
    simp only [aF,Nc,↓reduceIte,m1,m2];omega
   clear ee;rcases hx with ⟨rfl,fX,vW⟩ | ⟨t,e,rfl,ht,lh⟩
   ·refine wE fun K hK=>?_;simp only [↓DN,Qa,Qb,Qc,Qd,Qe,Qf,Qg,Qh,reduceCtorEq,↓reduceIte,Na,Nb,Nc,Nk,Nf,Ng,Nh,Za,Zb,Zc,TT,g5,bO,List.replicate_succ];intro t ht;refine hK _ _ (bX _ _ (.sl 1 1 [.v (.int .i64 ((cl (D i) : Nat) : Int))] (.own t 0)) g15 g16 g17 g1 rfl rfl ?_ ?_)
    ·refine .inr ⟨t,0,?_,by simp [AS.bC],bf hle ht⟩;rw [dN,List.map_append,vW];subst fX;rfl
    ·exact AS.bq hle (bf hle ht) 0
   ·refine wE fun K hK=>?_;simp only [↓DN,Qa,Qb,Qc,Qd,Qe,Qf,Qg,Qh,reduceCtorEq,↓reduceIte,Na,Nb,Nc,Nk,Nf,Ng,Nh,Za,Zb,Zc,TT,g5,ht,List.replicate_succ];have HR : (S.take i).length = i:=(by rw [List.length_take]; omega);refine ⟨by omega,by omega,hK _ _ (bX _ _ (.sl 1 (i + 1) ((S.take i).map aM ++ [.v (.int .i64 ((cl (D i) : Nat) : Int))]) (.own t (e + 1))) g15 g16 g17 g1 rfl rfl ?_ ?_)⟩
    ·exact .inr ⟨t,e + 1,by rw [dN,List.map_append]; rfl,by simp [AS.bC],lh⟩
    ·exact AS.bq hle lh (e + 1)
  ·have bI : ¬ ((i : Nat) : Int) < (W.length : Int):=(by omega);refine jB (Ai @g16 (Ai @g17 (decide_eq_false bI))) ?_;refine wK fun K2 aV=>?_;refine jF ?_;refine aA ?_;simp only [az,ar,if_true];refine hK _ _ ?_;clear hK aV K2 K;obtain rfl : i = k:=(by omega);refine jB @g5 ?_;refine jI ?_;rw [List.take_of_length_le (by omega)] at hx;refine ⟨_,_,?_,hle,rfl,rfl⟩;have:=hx.aB;unfold aH;rwa [RN]
end Go.Proofs.YtbiefppedlodiaaGreatDoor
namespace Go.AM
open Go
def Ib (l : List al) : List UInt8:=(l.map al.text).flatten
def Kv (t : List al) : List UInt8:=be 1 (aU t) ++ Ib t
open Go Go.RowKit
variable {P : Program} {Γ : Nat→List AV} {G : Gh} {s : AS} {w : World} {N : Nat}
variable {Γ : Nat→List AV} {s : AS}
namespace Sha
def dT (a b : Nat) : Nat:=(a + b) % 4294967296
def lz (x n : Nat) : Nat:=(x / 2 ^ n) ||| ((x * 2 ^ (32 - n)) % 4294967296)
def Kw (x a b c : Nat) : Nat:=(lz x a ^^^ lz x b) ^^^ lz x c
def B2 (x a b c : Nat) : Nat:=(lz x a ^^^ lz x b) ^^^ (x / 2 ^ c)
def FI (a b c d : Nat) : Nat:=((a * 256 + b) * 256 + c) * 256 + d
def word (c : List UInt8) (p : List Nat) (i : Nat) : Nat :=
  if i < 16 then FI ((c.getD (4 * i) 0).toNat) ((c.getD (4 * i + 1) 0).toNat) ((c.getD (4 * i + 2) 0).toNat) ((c.getD (4 * i + 3) 0).toNat)
  else dT (dT (dT (B2 (p.getD (i - 2) 0) 17 19 10) (p.getD (i - 7) 0)) (B2 (p.getD (i - 15) 0) 7 18 3)) (p.getD (i - 16) 0)
def lk (c : List UInt8) : Nat→List Nat
  | 0=>[]
  | n + 1=>lk c n ++ [word c (lk c n) n]
theorem cq (c : List UInt8) (n : Nat) : (lk c n).length = n:=by
  induction n with
  | zero=>rfl
  | succ n ih=>simp [lk,ih]
def t1 (e f g h k w : Nat) : Nat:=dT (dT (dT (dT h (Kw e 6 11 25)) ((e &&& f) ^^^ ((4294967295 - e) &&& g))) k) w
def t2 (a b c : Nat) : Nat:=dT (Kw a 2 13 22) (((a &&& b) ^^^ (a &&& c)) ^^^ (b &&& c))
structure St where
  a : Nat
  b : Nat
  c : Nat
  d : Nat
  e : Nat
  f : Nat
  g : Nat
  h : Nat
def St.step (s : St) (k w : Nat) : St :=
  ⟨dT (t1 s.e s.f s.g s.h k w) (t2 s.a s.b s.c),s.a,s.b,s.c,dT s.d (t1 s.e s.f s.g s.h k w),s.e,s.f,s.g⟩
def St.add (s t : St) : St:=⟨dT s.a t.a,dT s.b t.b,dT s.c t.c,dT s.d t.d,dT s.e t.e,dT s.f t.f,dT s.g t.g,dT s.h t.h⟩
def St.list (s : St) : List Nat:=[s.a,s.b,s.c,s.d,s.e,s.f,s.g,s.h]
structure St.ok (s : St) : Prop where
  a : s.a < 4294967296
  b : s.b < 4294967296
  c : s.c < 4294967296
  d : s.d < 4294967296
  e : s.e < 4294967296
  f : s.f < 4294967296
  g : s.g < 4294967296
  h : s.h < 4294967296
def K : List Nat:=[
  0x428a2f98,0x71374491,0xb5c0fbcf,0xe9b5dba5,0x3956c25b,0x59f111f1,0x923f82a4,0xab1c5ed5,
  0xd807aa98,0x12835b01,0x243185be,0x550c7dc3,0x72be5d74,0x80deb1fe,0x9bdc06a7,0xc19bf174,
  0xe49b69c1,0xefbe4786,0x0fc19dc6,0x240ca1cc,0x2de92c6f,0x4a7484aa,0x5cb0a9dc,0x76f988da,
  0x983e5152,0xa831c66d,0xb00327c8,0xbf597fc7,0xc6e00bf3,0xd5a79147,0x06ca6351,0x14292967,
  0x27b70a85,0x2e1b2138,0x4d2c6dfc,0x53380d13,0x650a7354,0x766a0abb,0x81c2c92e,0x92722c85,
  0xa2bfe8a1,0xa81a664b,0xc24b8b70,0xc76c51a3,0xd192e819,0xd6990624,0xf40e3585,0x106aa070,
  0x19a4c116,0x1e376c08,0x2748774c,0x34b0bcb5,0x391c0cb3,0x4ed8aa4a,0x5b9cca4f,0x682e6ff3,
  0x748f82ee,0x78a5636f,0x84c87814,0x8cc70208,0x90befffa,0xa4506ceb,0xbef9a3f7,0xc67178f2]
def H0 : St:=⟨0x6a09e667,0xbb67ae85,0x3c6ef372,0xa54ff53a,0x510e527f,0x9b05688c,0x1f83d9ab,0x5be0cd19⟩
def rounds (w : List Nat) (s : St) : Nat→St
  | 0=>s
  | n + 1=>(rounds w s n).step (K.getD n 0) (w.getD n 0)
def mix (s : St) (c : List UInt8) : St:=s.add (rounds (lk c 64) s 64)
def mH (l : List UInt8) (i : Nat) : List UInt8:=(l.drop (64 * i)).take 64
def hash (l : List UInt8) : Nat→St
  | 0=>H0
  | n + 1=>mix (hash l n) (mH l n)
def ga (n : Nat) : Nat:=(119 - n % 64) % 64
def vC (n : Nat) : List UInt8:=[UInt8.ofNat (8 * n / 2 ^ 56),UInt8.ofNat (8 * n / 2 ^ 48),UInt8.ofNat (8 * n / 2 ^ 40),UInt8.ofNat (8 * n / 2 ^ 32),UInt8.ofNat (8 * n / 2 ^ 24),UInt8.ofNat (8 * n / 2 ^ 16),UInt8.ofNat (8 * n / 2 ^ 8),UInt8.ofNat (8 * n)]
def pad (l : List UInt8) : List UInt8:=l ++ (128 :: (List.replicate (ga l.length) 0 ++ vC l.length))
theorem qU (l : List UInt8) : (pad l).length = l.length + 9 + ga l.length:=by simp [pad,vC]; omega
theorem GK (l : List UInt8) : (pad l).length % 64 = 0:=by rw [qU,ga]; omega
def be (x : Nat) : List UInt8:=[UInt8.ofNat (x / 2 ^ 24),UInt8.ofNat (x / 2 ^ 16),UInt8.ofNat (x / 2 ^ 8),UInt8.ofNat x]
def St.bytes (s : St) : List UInt8:=be s.a ++ be s.b ++ be s.c ++ be s.d ++ be s.e ++ be s.f ++ be s.g ++ be s.h
def sum (l : List UInt8) : List UInt8:=(hash (pad l) ((pad l).length / 64)).bytes
theorem dA (l : List UInt8) : (sum l).length = 32:=rfl
theorem fp (a b : Nat) : dT a b < 4294967296:=Nat.mod_lt _ (by decide)
theorem cc {x : Nat} (n : Nat) (h : x < 4294967296) : lz x n < 4294967296 :=
  Nat.or_lt_two_pow (n:=32) (Nat.lt_of_le_of_lt (Nat.div_le_self _ _) h) (Nat.mod_lt _ (by decide))
theorem NR (a b c d : UInt8) : FI a.toNat b.toNat c.toNat d.toNat < 4294967296:=by
  have:=a.toNat_lt; have:=b.toNat_lt; have:=c.toNat_lt; have:=d.toNat_lt;simp only [FI]; omega
theorem NS (c : List UInt8) (p : List Nat) (i : Nat) : word c p i < 4294967296:=by
  unfold word;split
  · exact NR _ _ _ _
  · exact fp _ _
theorem RO (c : List UInt8) (n : Nat) : ∀ x ∈ lk c n,x < 4294967296:=by
  induction n with
  | zero=>intro x hx; simp [lk] at hx
  | succ n ih =>
    intro x hx;simp only [lk,List.mem_append,List.mem_singleton] at hx;rcases hx with hx | rfl
    · exact ih x hx
    · exact NS _ _ _
theorem lK (c : List UInt8) (n i : Nat) : (lk c n).getD i 0 < 4294967296:=by
  rw [List.getD_eq_getElem?_getD];cases h : (lk c n)[i]? with
  | none=>simp
  | some x=>exact RO c n x (List.mem_of_getElem? h)
theorem Xq : H0.ok:=by constructor <;> decide
theorem St.ok.step {s : St} (h : s.ok) (k w : Nat) : (s.step k w).ok:=⟨fp _ _,h.a,h.b,h.c,fp _ _,h.e,h.f,h.g⟩
theorem St.ok.add (s t : St) : (s.add t).ok:=⟨fp _ _,fp _ _,fp _ _,fp _ _,fp _ _,fp _ _,fp _ _,fp _ _⟩
theorem tY {w : List Nat} {s : St} (h : s.ok) : ∀ n,(rounds w s n).ok
  | 0=>h
  | n + 1=>(tY h n).step _ _
theorem RP (s : St) (c : List UInt8) : (mix s c).ok:=St.ok.add _ _
theorem GL (l : List UInt8) : ∀ n,(hash l n).ok
  | 0=>Xq
  | n + 1=>RP _ _
end Sha
namespace Mac
def key (k : List UInt8) : List UInt8:=if 64 < k.length then Sha.sum k else k
def fill (k : List UInt8) : List UInt8:=k ++ List.replicate (64 - k.length) 0
def turn (x : UInt8) (l : List UInt8) : List UInt8:=l.map fun c=>c ^^^ x
def inner (k l : List UInt8) : List UInt8:=Sha.sum (turn 54 (fill (key k)) ++ l)
def tag (k l : List UInt8) : List UInt8:=Sha.sum (turn 92 (fill (key k)) ++ inner k l)
theorem Kx (k : List UInt8) : (key k).length≤64:=by
  unfold key;split
  · rw [Sha.dA]; decide
  · omega
theorem pf (k : List UInt8) (h : k.length≤64) : (fill k).length = 64:=by simp [fill]; omega
theorem mC (x : UInt8) (l : List UInt8) : (turn x l).length = l.length:=by simp [turn]
theorem lL (k l : List UInt8) : (tag k l).length = 32:=Sha.dA _
theorem AB (k l : List UInt8) : (inner k l).length = 32:=Sha.dA _
def part (x : UInt8) (l : List UInt8) (i : Nat) : List UInt8:=turn x (l.take i) ++ l.drop i
theorem Ic (x : UInt8) (l : List UInt8) : part x l 0 = l:=by simp [part,turn]
theorem Ky (x : UInt8) (l : List UInt8) (i : Nat) (h : l.length≤i) : part x l i = turn x l:=by
  rw [part,List.take_of_length_le h,List.drop_eq_nil_of_le h,List.append_nil]
theorem DP (x : UInt8) (l : List UInt8) (i : Nat) : (part x l i).length = l.length:=by simp [part,turn]; omega
theorem Kz (x : UInt8) (l : List UInt8) (i : Nat) (h : i < l.length) : List.drop i ((part x l i).map ah) = ah (l.getD i 0) :: List.drop (i + 1) ((part x l i).map ah):=by
  have hl : ((part x l i).map ah).length = l.length:=(by rw [List.length_map,DP]);rw [List.drop_eq_getElem_cons (by omega)];congr 1;rw [List.getElem_map];congr 1;simp only [part];rw [List.getElem_append_right (by simp [turn]; omega)];have e : (turn x (l.take i)).length = i:=(by simp [turn]; omega);simp only [e,Nat.sub_self,List.getElem_drop,Nat.add_zero];simp [List.getD_eq_getElem?_getD,h]
theorem KA (x : UInt8) (l : List UInt8) (i : Nat) (h : i < l.length) : ((part x l i).map ah).set i (ah (l.getD i 0 ^^^ x)) = (part x l (i + 1)).map ah:=by
  rw [← List.map_set];congr 1;simp only [part];have e : (turn x (l.take i)).length = i:=(by simp [turn]; omega);rw [List.set_append_right _ _ (by omega),e,Nat.sub_self,List.drop_eq_getElem_cons h,List.set_cons_zero,List.take_succ_eq_append_getElem h];simp only [turn,List.map_append,List.map_cons,List.map_nil,List.append_assoc,List.cons_append,List.nil_append,List.getD_eq_getElem?_getD,List.getElem?_eq_getElem h,Option.getD_some]
theorem xO (a b : UInt8) : CA .u8 (a.toNat : Int) (b.toNat : Int) = (((a ^^^ b).toNat : Nat) : Int):=by
  rw [EP (k:=.u8) rfl a.toNat b.toNat (by simpa [IntKind.bits] using a.toNat_lt) (by simpa [IntKind.bits] using b.toNat_lt),UInt8.toNat_xor]
theorem l9 : ∀ (ds cs : List AV) (off : Nat),off + ds.length≤cs.length→bm cs off ds = cs.take off ++ ds ++ cs.drop (off + ds.length)
  | [],cs,off,h=>by simp [bm]
  | d :: ds,cs,off,h=>by
    rw [bm,l9 ds (cs.set off d) (off + 1) (by simp at h ⊢; omega)];simp only [List.length_cons] at h;have h1 : (cs.set off d).take (off + 1) = cs.take off ++ [d]:=by
      rw [List.take_succ_eq_append_getElem (by simp; omega),List.getElem_set_self,List.take_set_of_le (Nat.le_refl off)]
    have h2 : (cs.set off d).drop (off + 1 + ds.length) = cs.drop (off + (ds.length + 1)):=by
      rw [List.drop_set_of_lt (by omega)];congr 1;omega
    rw [h1,h2,List.length_cons];simp
theorem FJ (k : List UInt8) (h : k.length≤64) : bm (List.replicate 64 (ah 0)) 0 (k.map ah) = (fill k).map ah:=by
  rw [l9 _ _ _ (by simpa using h)];simp only [List.take_zero,List.nil_append,Nat.zero_add,List.length_map,fill,List.map_append,List.map_replicate,List.drop_replicate]
end Mac
open Go
end Go.AM
namespace Go.AM
open Go
theorem JX (t : List al) (i : Nat) (x : al) (j : Nat) : nd (t.set i x) j = if i = j∧i < t.length then x else nd t j:=by
  unfold nd;simp only [List.getD_eq_getElem?_getD,List.getElem?_set];by_cases h : i = j
  · by_cases k : i < t.length
    · rw [if_pos h,if_pos k,if_pos ⟨h,k⟩]; rfl
    · rw [if_pos h,if_neg k,if_neg (fun q=>k q.2)];subst h;rw [List.getElem?_eq_none (by omega)]
  · rw [if_neg h,if_neg (fun q=>h q.1)]
theorem KB {t : List al} {L : Nat} (hL : aU t = L) (i : Int) : dW t i↔0≤i∧i < (L : Int)∧(nd t (2 * i.toNat)).kind = 1:=by unfold dW; rw [hL]
theorem KC {t : List al} {L : Nat} (hL : aU t = L) (i : Nat) : dW t (i : Int)↔i < L∧(nd t (2 * i)).kind = 1:=by
  rw [KB hL,Int.toNat_natCast];exact ⟨fun h=>⟨by omega,h.2.2⟩,fun h=>⟨by omega,by omega,h.2⟩⟩
open Go Go.RowKit
variable {P : Program} {Γ : Nat→List AV} {s : AS}
def zN : List AV:=[.v (.int .i64 0),.v (.slice none 0 0),.v (.int .u64 0),.v (.slice none 0 0),.v (.slice none 0 0)]
def pN : al × AV:=(al.iO,bO)
end Go.AM
namespace Go.Proofs.YtbiefppedlodiaaGreatDoor
open Go Go.AM Go.Proofs Tryz
variable {Γ : Nat→List AV}
abbrev wV (x : Nat) : AV:=.v (.int .u32 (x : Int))
theorem sI (a : Nat) (h : a < 32) : CB .i64 (a : Int) = -(a : Int):=by
 rw [CB,IntWalk.i64_in _ (by omega)];omega
theorem Ie (a : Nat) (h0 : 0 < a) (h : a < 32) : ll .u64 (cB .u64 (-(a : Int))) 31 = ((32 - a : Nat) : Int):=by
 have e : cB .u64 (-(a : Int)) = ((18446744073709551616 - a : Nat) : Int):=by
  rw [cB,js rfl];simp only [IntKind.bits];omega
 rw [e,show (31 : Int) = ((31 : Nat) : Int) from rfl,qD rfl _ _ (by simp only [IntKind.bits]; omega) (by decide)];congr 1;have : (18446744073709551616 - a) &&& 31 = (18446744073709551616 - a) % 2 ^ 5:=Nat.and_two_pow_sub_one_eq_mod _ 5;rw [this];omega
theorem lM (a : Nat) : ¬ ((a : Nat) : Int) < 0:=by omega
theorem NT (a : Nat) (h0 : 0 < a) (h : a < 32) : dC .u64 32 ((32 - a : Nat) : Int) = ((a : Nat) : Int):=by
 have:=zV (k:=.u64) rfl 32 (32 - a) (by omega) (by decide);rw [show (32 : Int) = ((32 : Nat) : Int) from rfl,this];congr 1;omega
theorem NU (x a : Nat) (hx : x < 4294967296) (h0 : 0 < a) (h : a < 32) : EA .u32 (jl .u32 (x : Int) ((32 - a : Nat) : Int)) (eC .u32 (x : Int) ((a : Nat) : Int)) = ((Sha.lz x a : Nat) : Int):=by
 rw [qE rfl,gL];rw [zW rfl _ _ (Nat.mod_lt _ (by decide)) (by simp only [IntKind.bits]; exact Nat.lt_of_le_of_lt (Nat.div_le_self _ _) hx)];rw [Sha.lz,Nat.or_comm];simp only [IntKind.bits];rw [Nat.min_eq_left (by omega),Nat.min_eq_left (by omega)]
theorem oc (a b : Nat) (ha : a < 4294967296) (hb : b < 4294967296) : CA .u32 (a : Int) (b : Int) = ((a ^^^ b : Nat) : Int):=EP rfl a b ha hb
theorem zk (a b : Nat) (ha : a < 4294967296) (hb : b < 4294967296) : ll .u32 (a : Int) (b : Int) = ((a &&& b : Nat) : Int):=qD rfl a b ha hb
theorem Xr (a b : Nat) (ha : a < 4294967296) (hb : b < 4294967296) : EA .u32 (a : Int) (b : Int) = ((a ||| b : Nat) : Int):=zW rfl a b ha hb
theorem sJ (a b : Nat) : dP .u32 (a : Int) (b : Int) = ((Sha.dT a b : Nat) : Int):=th rfl a b
theorem Xt (a : Nat) (ha : a < 4294967296) : IU .u32 (a : Int) = ((4294967295 - a : Nat) : Int):=QF rfl a ha
theorem tZ (a c : Nat) (hc : c < 32) : eC .u32 (a : Int) ((c : Nat) : Int) = ((a / 2 ^ c : Nat) : Int):=by
 rw [gL];simp only [IntKind.bits];rw [Nat.min_eq_left (by omega)]
theorem KD (a c : Nat) (hc : c < 32) : jl .u32 (a : Int) ((c : Nat) : Int) = (((a * 2 ^ c) % 4294967296 : Nat) : Int):=by
 rw [qE rfl];simp only [IntKind.bits];rw [Nat.min_eq_left (by omega)]
theorem kY (x a : Nat) (hx : x < 4294967296) (h0 : 0 < a) (h : a < 32) (s : AS) :
  ai prog Γ 250 [wV x,.v (.int .i64 (-(a : Int)))] s (fun r s'=>r = wV (Sha.lz x a)∧s' = s):=by
 refine aa func250 rfl ntmps250 results250 (by simp) ?_;refine jA ?_;refine jB (Ie a h0 h) ?_;refine jB (Ai @lM (Ai (NT a h0 h) (NU x a hx h0 h))) ?_;refine jI ?_;exact ⟨_,s,AV.aB.refl _,AS.le.refl s,rfl,rfl⟩
theorem sK (x a b c : Nat) (hx : x < 4294967296) (ha0 : 0 < a) (ha : a < 32) (Xu : 0 < b) (hb : b < 32) (L4 : 0 < c) (hc : c < 32) (s : AS) :
  ai prog Γ 234 [wV x,.v (.int .i64 (a : Int)),.v (.int .i64 (b : Int)),.v (.int .i64 (c : Int))] s (fun r s'=>r = wV (Sha.Kw x a b c)∧s' = s):=by
 refine aa func234 rfl ntmps234 results234 (by simp) ?_;refine jA ?_;refine jS (sI a ha) fun K hK=>?_;refine ad (kY x a hx ha0 ha _) ?_;rintro r s1 ⟨rfl,rfl⟩;refine jN (sI b hb) ?_;refine ad (kY x b hx Xu hb _) ?_;rintro r s2 ⟨rfl,rfl⟩;refine jN (Ai (sI c hc) (oc _ _ (Sha.cc a hx) (Sha.cc b hx))) ?_;refine ad (kY x c hx L4 hc _) ?_;rintro r s3 ⟨rfl,rfl⟩;refine jV (oc _ _ (Nat.xor_lt_two_pow (n:=32) (Sha.cc a hx) (Sha.cc b hx)) (Sha.cc c hx)) hK ?_;clear hK K;exact jJ
theorem qj (x a b c : Nat) (hx : x < 4294967296) (ha0 : 0 < a) (ha : a < 32) (Xu : 0 < b) (hb : b < 32) (L4 : 0 < c) (hc : c < 32) (s : AS) :
  ai prog Γ 249 [wV x,.v (.int .i64 (a : Int)),.v (.int .i64 (b : Int)),.v (.int .i64 (c : Int))] s (fun r s'=>r = wV (Sha.B2 x a b c)∧s' = s):=by
 refine aa func249 rfl ntmps249 results249 (by simp) ?_;refine jA ?_;refine bn T.mixed [3,7] (by kernel_rfl) ?_;intro K hK;refine jN (sI a ha) ?_;refine ad (kY x a hx ha0 ha _) ?_;rintro r s1 ⟨rfl,rfl⟩;refine jN (sI b hb) ?_;refine ad (kY x b hx Xu hb _) ?_;rintro r s2 ⟨rfl,rfl⟩;refine jV (Ai (oc _ _ (Sha.cc a hx) (Sha.cc b hx)) (Ai @lM (Ai (tZ x c hc) (oc _ _ (Nat.xor_lt_two_pow (n:=32) (Sha.cc a hx) (Sha.cc b hx)) (Nat.lt_of_le_of_lt (Nat.div_le_self x (2 ^ c)) hx))))) hK ?_;clear hK K;exact jJ
theorem Ig (a : Nat) (h : a < 32) : dC .i64 32 ((a : Nat) : Int) = ((32 - a : Nat) : Int):=by
 rw [cf (by omega)];omega
theorem Ih (x a : Nat) (hx : x < 4294967296) (h0 : 0 < a) (h : a < 32) : EA .u32 (eC .u32 (x : Int) ((a : Nat) : Int)) (jl .u32 (x : Int) ((32 - a : Nat) : Int)) = ((Sha.lz x a : Nat) : Int):=by
 rw [KD x (32 - a) (by omega),tZ x a h,Xr _ _ (Nat.lt_of_le_of_lt (Nat.div_le_self _ _) hx) (Nat.mod_lt _ (by decide)),Sha.lz]
theorem dv (x a : Nat) (hx : x < 4294967296) (h0 : 0 < a) (h : a < 32) (s : AS) :
  ai prog Γ 210 [wV x,.v (.int .i64 (a : Int))] s (fun r s'=>r = wV (Sha.lz x a)∧s' = s):=by
 refine aa func210 rfl ntmps210 results210 (by simp) ?_;refine jA ?_;refine bn T.mixed [] (by kernel_rfl) ?_;intro K hK;refine jV (Ai @lM (Ai (Ig a h) (Ih x a hx h0 h))) hK ?_;clear hK K;refine jI ?_;exact ⟨_,s,AV.aB.refl _,AS.le.refl s,rfl,rfl⟩
theorem FK (s : AS) :
  ai prog Γ 208 [] s (fun r s'=>r = .sl 1 64 (Sha.K.map wV) .no∧s' = s):=by
 refine aa func208 rfl ntmps208 results208 (by simp) ?_;refine jA ?_;refine jA ?_;refine jI ?_;exact ⟨_,s,AV.My rfl,AS.le.refl s,rfl,rfl⟩
def row (c : List UInt8) (i : Nat) : List AV:=(Sha.lk c i).map wV ++ List.replicate (64 - i) (wV 0)
theorem row_zero (c : List UInt8) : row c 0 = List.replicate 64 (wV 0):=rfl
theorem DQ (c : List UInt8) : row c 64 = (Sha.lk c 64).map wV:=by simp [row]
theorem cS (c : List UInt8) (i : Nat) (h : i≤64) : (row c i).length = 64:=by
 simp [row,Sha.cq]; omega
theorem drop_cons {α : Type} (l : List α) (j : Nat) (x : α) (h : l[j]? = some x) : List.drop j l = x :: List.drop (j + 1) l:=by
 obtain ⟨h1,h2⟩:=List.getElem?_eq_some_iff.1 h;rw [List.drop_eq_getElem_cons h1,h2]
theorem ji (c : List UInt8) (i j : Nat) (h : j < i) : List.drop j (row c i) = wV ((Sha.lk c i).getD j 0) :: List.drop (j + 1) (row c i):=by
 apply drop_cons;have hl : j < (Sha.lk c i).length:=(by rw [Sha.cq]; exact h);rw [row,List.getElem?_append_left (by simpa using hl),List.getElem?_map,List.getElem?_eq_getElem hl];simp [List.getD,List.getElem?_eq_getElem hl]
def rowP (c : List UInt8) (i v : Nat) : List AV:=(row c i).set i (wV v)
theorem Ii (c : List UInt8) (i : Nat) (h : i < 64) : rowP c i 0 = row c i:=by
 unfold rowP;apply List.ext_getElem?;intro k;by_cases e : k = i
 ·subst e;rw [List.getElem?_set_self (by rw [cS c k (by omega)]; exact h),row,List.getElem?_append_right (by simp [Sha.cq])];simp [Sha.cq,List.getElem?_replicate];omega
 ·rw [List.getElem?_set_ne (by omega)]
theorem Ij (c : List UInt8) (i v : Nat) (h : i < 64) : List.drop i (rowP c i v) = wV v :: List.drop (i + 1) (rowP c i v):=by
 apply drop_cons;rw [rowP,List.getElem?_set_self (by rw [cS c i (by omega)]; exact h)]
theorem KE (c : List UInt8) (i v u : Nat) : (rowP c i v).set i (wV u) = rowP c i u:=by simp [rowP]
theorem KF (c : List UInt8) (i v : Nat) (h : i≤64) : (rowP c i v).length = 64:=by simp [rowP,cS c i h]
theorem vY (c : List UInt8) (i : Nat) (h : i < 64) : (row c i).set i (wV (Sha.word c (Sha.lk c i) i)) = row c (i + 1):=by
 apply List.ext_getElem?;intro k;by_cases e : k = i
 ·subst e;rw [List.getElem?_set_self (by rw [cS c k (by omega)]; exact h),row,List.getElem?_append_left (by simp [Sha.cq])];simp [Sha.lk,Sha.cq,List.getElem?_append_right]
 ·rw [List.getElem?_set_ne (by omega),row,row];by_cases hk : k < i
  ·rw [List.getElem?_append_left (by simp [Sha.cq]; omega),List.getElem?_append_left (by simp [Sha.cq]; omega)];simp [Sha.lk,List.getElem?_append_left,Sha.cq,hk]
  ·rw [List.getElem?_append_right (by simp [Sha.cq]; omega),List.getElem?_append_right (by simp [Sha.cq]; omega)];simp only [List.length_map,Sha.cq,List.getElem?_replicate];by_cases h2 : k < 64
   ·rw [if_pos (by omega),if_pos (by omega)]
   ·rw [if_neg (by omega),if_neg (by omega)]
def ql (c : List UInt8) (i k : Nat) : Nat:=((c.drop (4 * i)).take k).foldl (fun x b=>x * 256 + b.toNat) 0
theorem xP (c : List UInt8) (i : Nat) : ql c i 0 = 0:=rfl
theorem kZ (c : List UInt8) (i k : Nat) (b : UInt8) (h : c[4 * i + k]? = some b) : ql c i (k + 1) = ql c i k * 256 + b.toNat:=by
 unfold ql;have : (c.drop (4 * i))[k]? = some b:=(by rw [List.getElem?_drop]; exact h);obtain ⟨h1,h2⟩:=List.getElem?_eq_some_iff.1 this;rw [List.take_succ_eq_append_getElem h1,List.foldl_append,h2];rfl
theorem KG (c : List UInt8) (i k : Nat) (hk : k≤3) : ql c i k < 16777216:=by
 have key : ∀ (l : List UInt8) (x : Nat),l.foldl (fun x b=>x * 256 + b.toNat) x < (x + 1) * 256 ^ l.length:=by
  intro l;induction l with
  | nil=>intro x; simp
  | cons b l ih =>
   intro x;rw [List.foldl_cons];have h1:=ih (x * 256 + b.toNat);have hb:=b.toNat_lt;have h2 : (x * 256 + b.toNat + 1) * 256 ^ l.length≤((x + 1) * 256) * 256 ^ l.length:=Nat.mul_le_mul_right _ (by omega);rw [List.length_cons,Nat.pow_succ,Nat.mul_comm (256 ^ l.length),← Nat.mul_assoc];omega
 have h:=key ((c.drop (4 * i)).take k) 0;have hl : ((c.drop (4 * i)).take k).length≤3:=(by simp; omega);have : 256 ^ ((c.drop (4 * i)).take k).length≤256 ^ 3:=Nat.pow_le_pow_right (by decide) hl;unfold ql;omega
theorem FL (c : List UInt8) (p : List Nat) (i : Nat) (hi : i < 16) (hc : c.length = 64) : ql c i 4 = Sha.word c p i:=by
 have g : ∀ j,j < 4→c[4 * i + j]? = some (c.getD (4 * i + j) 0):=fun j hj=>by
  rw [List.getD_eq_getElem?_getD,List.getElem?_eq_getElem (by omega)];rfl
 rw [kZ c i 3 _ (g 3 (by omega)),kZ c i 2 _ (g 2 (by omega)),kZ c i 1 _ (g 1 (by omega)),kZ c i 0 _ (g 0 (by omega)),xP];unfold Sha.word;rw [if_pos hi];simp only [Sha.FI,Nat.add_zero,Nat.zero_mul,Nat.zero_add]
theorem RQ (x : Nat) (b : UInt8) (h : x < 16777216) : EA .u32 (jl .u32 (x : Int) 8) (cB .u32 (b.toNat : Int)) = ((x * 256 + b.toNat : Nat) : Int):=by
 have hb:=b.toNat_lt;rw [show (8 : Int) = ((8 : Nat) : Int) from rfl,KD x 8 (by decide),gh rfl];have e1 : x * 2 ^ 8 % 4294967296 = x * 256:=(by omega);have e2 : b.toNat % 2 ^ IntKind.u32.bits = b.toNat:=(by simp only [IntKind.bits]; omega);rw [e1,e2,Xr _ _ (by omega) (by omega)];have:=Nat.shiftLeft_add_eq_or_of_lt (b:=b.toNat) (i:=8) (by omega) x;rw [Nat.shiftLeft_eq] at this;rw [show x * 256 = x * 2 ^ 8 from rfl,← this]
theorem qV : ∀ (xs cs : List AV) (off : Nat),off + xs.length≤cs.length→bm cs off xs = cs.take off ++ xs ++ cs.drop (off + xs.length)
 | [],cs,off,_=>by simp [bm]
 | x :: xs,cs,off,h=>by
  simp only [List.length_cons] at h;rw [bm,qV xs _ _ (by simp; omega)];have e1 : List.take (off + 1) (cs.set off x) = List.take off cs ++ [x]:=by
   rw [List.take_succ_eq_append_getElem (by simp; omega)];simp [List.take_set_of_le]
  have e2 : List.drop (off + 1 + xs.length) (cs.set off x) = List.drop (off + (xs.length + 1)) cs:=by
   rw [List.drop_set_of_lt (by omega),show off + 1 + xs.length = off + (xs.length + 1) from by omega]
  rw [e1,e2];simp
theorem bA (cs xs : List AV) (h : cs.length = xs.length) : bm cs 0 xs = xs:=by
 rw [qV xs cs 0 (by omega)];simp [← h]
theorem z138 : bg prog 246 = some (List.replicate 64 (wV 0)):=by kernel_rfl
theorem RR (l : List Nat) : (l.map wV).all AV.one = true:=by
 rw [List.all_eq_true];intro x hx;obtain ⟨n,_,rfl⟩:=List.mem_map.1 hx;rfl
theorem q64 : kA .i64 ((64 : Nat) : Int) 4 = 16:=by decide
theorem cE (i : Nat) (h : i < 2 ^ 62) : dP .i64 (i : Int) 1 = ((i + 1 : Nat) : Int):=by
 rw [eE (by omega)];rfl
theorem DR (i : Nat) (h : i < 64) : iF .i64 4 (i : Int) = ((4 * i : Nat) : Int):=by
 rw [dJ (by omega)];omega
theorem fD (a b : Nat) (h : a + b < 9223372036854775808) : dP .i64 (a : Int) (b : Int) = ((a + b : Nat) : Int):=by
 rw [eE (by omega)];omega
theorem KH (a : Nat) (h : a < 2 ^ 62) : dP .i64 (a : Int) 4 = ((a + 4 : Nat) : Int):=fD a 4 (by omega)
theorem gi (a b : Nat) (hb : b≤a) (h : a < 9223372036854775808) : dC .i64 (a : Int) (b : Int) = ((a - b : Nat) : Int):=by
 rw [cf (by omega)];omega
theorem B3 (c : List UInt8) (hc : c.length = 64) (s : AS) :
  ai prog Γ 233 [aj c .any] s (fun r s'=>r = .agg ((Sha.lk c 64).map wV)∧s' = s):=by
 refine aa func233 rfl ntmps233 results233 (by simp) ?_;refine jS @z138 fun K hK=>?_;intro o2 pQ;refine hK _ _ ?_;clear hK K;refine jS @z138 fun K hK=>?_;intro o3 zl;refine hK _ _ ?_;clear hK K;obtain ⟨nZ,zm⟩:=AS.eP zl;clear zl;rw [← row_zero c];refine wK fun K hK=>?_;refine jA ?_;refine ag ?_;have eV : (aj c .any : AV) = .sl 1 64 (c.map ah) .any:=(by rw [aj,hc]);refine aC (fun E s1=>∃ i : Nat,i≤64∧E 0 = .sl 1 64 (c.map ah) .any∧E 2 = .ptr o2 0∧E 3 = .ptr o3 0∧E 7 = .v (.int .i64 i)∧s1 = (s.set o2 (row c 0)).set o3 (row c i))
  (fun E _=>match E 7 with | .v (.int _ i)=>64 - i.toNat | _=>0) ?_ ?_
 ·exact ⟨0,by omega,by simp [aF,bz,hc],by simp [aF],by simp [aF],by simp [aF],rfl⟩
 ·rintro E1 s1 ⟨i,hi,e0,e2,e3,e7,rfl⟩ -
  by_cases aX : i < 64
  ·have fu : (i : Int) < 64:=(by omega);have Ev : (i : Int) < ((64 : Nat) : Int):=(by omega);refine jB (Ai @e7 (decide_eq_true fu)) ?_;refine wK fun K2 aV=>?_;refine jE ?_;refine ab ?_;refine aV _ _ ?_;clear aV K2;refine wK fun K3 br=>?_;refine ag ?_;refine jB @e7 ?_;have GM : ∀ E4 : Env,E4 0 = .sl 1 64 (c.map ah) .any→E4 2 = .ptr o2 0→E4 3 = .ptr o3 0→E4 7 = .v (.int .i64 i)→K3 E4 ((s.set o2 (row c 0)).set o3 (row c (i + 1))):=by
    intro E4 f0 f2 f3 f7;refine br _ _ ?_;clear br K3;refine jD (Ai @f7 (cE i (by omega))) ?_;refine ⟨⟨i + 1,by omega,f0,f2,f3,rfl,rfl⟩,?_⟩;simp only [e7,aF,↓reduceIte];omega
   clear br;refine wK fun K4 ee=>?_;by_cases NV : i < 16
   ·have KI : (i : Int) < 16:=(by omega);refine jB (Ai @e0 (Ai @e7 @q64)) ?_;refine wC fun X Y hX hY=>?_;simp only [UP,DF,Nc,↓reduceIte,DB];refine ⟨fun _=>hX ?_,fun h=>absurd KI h⟩;clear hX hY X Y;have A8 : (0 : Int)≤((4 * i : Nat) : Int):=(by omega);have hlh : ((4 * i : Nat) : Int)≤((4 * i + 4 : Nat) : Int):=(by omega);have xaZ : ((4 * i + 4 : Nat) : Int)≤((64 : Nat) : Int):=(by omega);refine wK fun K5 kt=>?_;refine jB (Ai @e0 (Ai @e7 (Ai (DR i aX) (Ai (KH (4 * i) (by omega)) (Ai @A8 (Ai @hlh (Ai @xaZ @Nat.add_sub_cancel_left))))))) ?_;refine ag ?_;obtain ⟨Xs,hXs⟩ : ∃ Xs,Xs = List.map ah (List.drop (4 * i) (List.take (4 * i + 4) c)):=⟨_,rfl⟩;have hXk : ∀ k,k < 4→List.take 1 (List.drop k Xs) = [ah (c.getD (4 * i + k) 0)]:=by
     intro k hk;have : Xs[k]? = some (ah (c.getD (4 * i + k) 0)):=by
      rw [hXs,List.getElem?_map,List.getElem?_drop,List.getElem?_take,if_pos (by omega),List.getElem?_eq_getElem (by omega)];simp only [Option.map_some,List.getD,List.getElem?_eq_getElem (show 4 * i + k < c.length by omega),Option.getD_some]
     rw [drop_cons _ _ _ this];rfl
    rw [← hXs];refine aC (fun E s2=>∃ k : Nat,k≤4∧E 0 = .sl 1 64 (c.map ah) .any∧E 2 = .ptr o2 0∧E 3 = .ptr o3 0∧E 7 = .v (.int .i64 i)∧E 4 = .v (.int .i64 i)∧E 21 = .sl 1 4 Xs .any∧E 22 = .v (.int .i64 4)∧E 23 = .v (.int .i64 k)∧s2 = (s.set o2 (row c 0)).set o3 (rowP c i (ql c i k)))
     (fun E _=>match E 23 with | .v (.int _ k)=>4 - k.toNat | _=>0) ?_ ?_
    ·refine ⟨0,by omega,e0,e2,e3,e7,rfl,rfl,rfl,rfl,by rw [xP,Ii c i aX]⟩
    ·rintro E2 s2 ⟨k,hk,g0,g2,g3,g7,g4,g21,g22,g23,rfl⟩ -
     by_cases sr : k < 4
     ·have Cq : (k : Int) < 4:=(by omega);have WC : (0 : Int)≤(k : Int):=(by omega);have TL : (k : Int) < ((4 : Nat) : Int):=(by omega);have fX : (0 : Int)≤(i : Int):=(by omega);refine jB (Ai @g23 (Ai @g22 (decide_eq_true Cq))) ?_;refine wK fun K6 kV=>?_;refine jE ?_;refine ab ?_;refine kV _ _ ?_;clear kV K6;refine wK fun K7 GJ=>?_;refine ag ?_;obtain ⟨b,hb⟩ : ∃ b,b = c.getD (4 * i + k) 0:=⟨_,rfl⟩;have NW : c[4 * i + k]? = some b:=by
       rw [hb,List.getD_eq_getElem?_getD,List.getElem?_eq_getElem (by omega)];rfl
      have Xv:=hXk k sr;rw [← hb] at Xv;refine jB (Ai @g21 (Ai @g23 (Ai @WC (Ai @Cq (Ai @TL @Xv))))) ?_;obtain ⟨v,hv⟩ : ∃ v,v = ql c i k:=⟨_,rfl⟩;have hv3 : v < 16777216:=(by rw [hv]; exact KG c i k (by omega));rw [← hv];have hd:=Ij c i v aX;have ck : (rowP c i v).set i (wV (v * 256 + b.toNat)) = rowP c i (ql c i (k + 1)):=(by rw [KE,kZ c i k b NW,hv]);have hlen:=KF c i v hi;obtain ⟨R,hR⟩ : ∃ R,R = rowP c i v:=⟨_,rfl⟩;rw [← hR] at hd ck hlen ⊢;refine wE fun K hK=>?_;simp only [↓DN,Qa,Qb,Qc,Qd,Qe,Qf,Qg,Qh,reduceCtorEq,↓reduceIte,Na,Nb,Nc,Nk,Nf,Ng,Nh,Za,Zb,Zc,TT,g3,g4,fX,fu,Ev,hd,ah,RQ v b hv3,ck,hlen,aX];refine ⟨by omega,hK _ _ ?_⟩;clear hK K;simp only [ar,az,if_true,if_false];refine GJ _ _ ?_;clear GJ K7;refine jD (Ai @g23 (cE k (by omega))) ?_;refine ⟨⟨k + 1,by omega,g0,g2,g3,g7,g4,g21,g22,rfl,rfl⟩,?_⟩;simp only [g23,aF,↓reduceIte];omega
     ·have Cq : ¬ (k : Int) < 4:=(by omega);obtain rfl : k = 4:=(by omega);refine jB (Ai @g23 (Ai @g22 (decide_eq_false Cq))) ?_;refine wK fun K6 kV=>?_;refine jF ?_;refine aA ?_;simp only [az,ar,if_true];clear kV K6;refine kt _ _ ?_;clear kt K5;refine aA ?_;simp only [az,ar,if_true];rw [FL c (Sha.lk c i) i NV hc];have : rowP c i (Sha.word c (Sha.lk c i) i) = row c (i + 1):=vY c i aX;rw [this];exact GM _ g0 g2 g3 g7
   ·have KI : ¬ (i : Int) < 16:=(by omega);have fX : (0 : Int)≤(i : Int):=(by omega);refine jB (Ai @e0 (Ai @e7 @q64)) ?_;refine wC fun X Y hX hY=>?_;simp only [UP,DF,Nc,↓reduceIte,DB];refine ⟨fun h=>absurd h KI,fun _=>hY ?_⟩;clear hX hY X Y;refine ab ?_;refine ee _ _ ?_;clear ee K4;have n2 : (0 : Int)≤((i - 2 : Nat) : Int):=(by omega);have n7 : (0 : Int)≤((i - 7 : Nat) : Int):=(by omega);have n15 : (0 : Int)≤((i - 15 : Nat) : Int):=(by omega);have n16 : (0 : Int)≤((i - 16 : Nat) : Int):=(by omega);have m2 : ((i - 2 : Nat) : Int) < ((64 : Nat) : Int):=(by omega);have m7 : ((i - 7 : Nat) : Int) < ((64 : Nat) : Int):=(by omega);have PV : ((i - 15 : Nat) : Int) < ((64 : Nat) : Int):=(by omega);have NX : ((i - 16 : Nat) : Int) < ((64 : Nat) : Int):=(by omega);have s2 : dC .i64 (i : Int) 2 = ((i - 2 : Nat) : Int):=gi i 2 (by omega) (by omega);have s7 : dC .i64 (i : Int) 7 = ((i - 7 : Nat) : Int):=gi i 7 (by omega) (by omega);have s15 : dC .i64 (i : Int) 15 = ((i - 15 : Nat) : Int):=gi i 15 (by omega) (by omega);have IM : dC .i64 (i : Int) 16 = ((i - 16 : Nat) : Int):=gi i 16 (by omega) (by omega);have d2:=ji c i (i - 2) (by omega);have d7:=ji c i (i - 7) (by omega);have d15:=ji c i (i - 15) (by omega);have d16:=ji c i (i - 16) (by omega);have hw : Sha.word c (Sha.lk c i) i = Sha.dT (Sha.dT (Sha.dT (Sha.B2 ((Sha.lk c i).getD (i - 2) 0) 17 19 10) ((Sha.lk c i).getD (i - 7) 0)) (Sha.B2 ((Sha.lk c i).getD (i - 15) 0) 7 18 3)) ((Sha.lk c i).getD (i - 16) 0):=(by rw [Sha.word,if_neg NV]);have ck:=vY c i aX;rw [hw] at ck;have hlen:=cS c i hi;have l2:=Sha.lK c i (i - 2);have NY:=Sha.lK c i (i - 15);generalize (Sha.lk c i).getD (i - 2) 0 = x2 at *
    generalize (Sha.lk c i).getD (i - 7) 0 = x7 at *
    generalize (Sha.lk c i).getD (i - 15) 0 = x15 at *
    generalize (Sha.lk c i).getD (i - 16) 0 = x16 at *
    obtain ⟨R,hR⟩ : ∃ R,R = row c i:=⟨_,rfl⟩;rw [← hR] at d2 d7 d15 d16 ck hlen ⊢;refine cH T.mixed [(o3,R)] [5,15] [4,9,14,20] [23] (by kernel_rfl) (by simp only [aG,aJ,and_true]; simp [AS.set,aF]) ?_;intro K hK;simp only [↓bp,↓a7,dh,dd,aO,aS,aG,aJ,List.any_cons,List.any_nil,List.contains_cons,List.contains_nil,Nat.reduceBEq,Bool.or_false,Bool.or_true,Bool.or_self,Bool.false_or,↓DN,Qa,Qb,Qc,Qd,Qe,Qf,Qg,Qh,reduceCtorEq,↓reduceIte,Na,Nb,Nc,Nk,Nf,Ng,Nh,Za,Zb,Zc,TT,e3,e7,fX,Ev,n2,n7,n15,n16,m2,m7,PV,NX,s2,s7,s15,IM,d2,d7,d15,d16,nZ];refine ad (qj x2 17 19 10 l2 (by omega) (by omega) (by omega) (by omega) (by omega) (by omega) _) ?_;rintro r sa ⟨rfl,rfl⟩;simp only [↓cj,↓bM,bY,↓bp,↓a7,dh,dd,aO,aS,aG,aJ,List.any_cons,List.any_nil,DX,Nat.reduceBEq,↓DN,Qa,Qb,Qc,Qd,Qe,Qf,Qg,Qh,reduceCtorEq,↓reduceIte,Na,Nb,Nc,Nk,Nf,Ng,Nh,Za,Zb,Zc,TT,e3,e7,fX,Ev,n2,n7,n15,n16,m2,m7,PV,NX,s2,s7,s15,IM,d2,d7,d15,d16,nZ,sJ];refine ad (qj x15 7 18 3 NY (by omega) (by omega) (by omega) (by omega) (by omega) (by omega) _) ?_;rintro r sb ⟨rfl,rfl⟩;simp only [↓cj,↓bM,bY,↓bp,↓a7,dh,dd,aO,aS,aG,aJ,List.any_cons,List.any_nil,DX,Nat.reduceBEq,↓DN,Qa,Qb,Qc,Qd,Qe,Qf,Qg,Qh,reduceCtorEq,↓reduceIte,Na,Nb,Nc,Nk,Nf,Ng,Nh,Za,Zb,Zc,TT,e3,e7,fX,Ev,n2,n7,n15,n16,m2,m7,PV,NX,s2,s7,s15,IM,d2,d7,d15,d16,nZ,sJ,ck,hlen];refine ⟨by omega,hK _ _ ?_⟩;clear hK K;simp only [ar,az,if_true,if_false];exact GM _ e0 e2 e3 e7
  ·have fu : ¬ (i : Int) < 64:=(by omega);obtain rfl : i = 64:=(by omega);refine jB (Ai @e7 (decide_eq_false fu)) ?_;refine wK fun K2 aV=>?_;refine jF ?_;refine aA ?_;simp only [az,ar,if_true];clear aV K2;refine hK _ _ ?_;clear hK K;rw [DQ c];have yC : ((Sha.lk c 64).map wV).length = 64:=(by simp [Sha.cq]);have bR:=RR (Sha.lk c 64);have dN : List.take 64 ((Sha.lk c 64).map wV) = (Sha.lk c 64).map wV:=List.take_of_length_le (by omega);obtain ⟨X,hX⟩ : ∃ X,X = (Sha.lk c 64).map wV:=⟨_,rfl⟩;rw [← hX] at yC bR dN ⊢;refine jS (Ai @e2 (Ai @e3 (Ai @yC (Ai @dN (Ai @bR (Ai @nZ @nZ.symm)))))) fun K hK=>?_;have Et : (row c 0).length = 64:=cS c 0 (by omega);rw [bA (row c 0) X (by omega)];refine ⟨by omega,hK _ _ ?_⟩;clear hK K;refine aW ?_;refine ev (v:=.agg X) (o:=o2) (off:=0) e2 (AS.ae _ _ _) (by rw [T.Q6]; decide) (by simp only [↓DN,Qa,Qb,Qc,Qd,Qe,Qf,Qg,Qh,reduceCtorEq,↓reduceIte,Na,Nb,Nc,Nk,Nf,Ng,Nh,Za,Zb,Zc,TT,yC,dN]) ?_;exact ⟨_,s,AV.aB.refl _,AS.aE (AS.aE (AS.aE (AS.le.refl s) pQ _) zm _) pQ _,rfl,rfl⟩
abbrev dV (t : Sha.St) : List AV:=[wV t.a,wV t.b,wV t.c,wV t.d,wV t.e,wV t.f,wV t.g,wV t.h]
theorem c8 : ((8 : Nat) : Int) = 8:=rfl
theorem xQ (l : List Nat) (i : Nat) (h : i < l.length) : (l.map wV)[i]? = some (wV (l.getD i 0)):=by
 rw [List.getElem?_map,List.getElem?_eq_getElem h];simp [List.getD,List.getElem?_eq_getElem h]
def xR (t u : Sha.St) (i : Nat) : List AV:=(dV (t.add u)).take i ++ (dV t).drop i
theorem AD (t u : Sha.St) : xR t u 0 = dV t:=rfl
theorem AE (t u : Sha.St) : xR t u 8 = dV (t.add u):=rfl
theorem DS (t u : Sha.St) (i : Nat) (h : i≤8) : (xR t u i).length = 8:=by
 simp [xR]; omega
theorem at8 {i : Nat} (h : i < 8) : i = 0∨i = 1∨i = 2∨i = 3∨i = 4∨i = 5∨i = 6∨i = 7:=by omega
theorem AF (t u : Sha.St) (i : Nat) (h : i < 8) : List.drop i (xR t u i) = wV (t.list.getD i 0) :: (dV t).drop (i + 1):=by
 rcases at8 h with rfl | rfl | rfl | rfl | rfl | rfl | rfl | rfl <;> rfl
theorem DU (t u : Sha.St) (i : Nat) (h : i < 8) : (xR t u i).set i (wV (Sha.dT (t.list.getD i 0) (u.list.getD i 0))) = xR t u (i + 1):=by
 rcases at8 h with rfl | rfl | rfl | rfl | rfl | rfl | rfl | rfl <;> rfl
theorem xU (u : Sha.St) (i : Nat) (h : i < 8) : List.drop i (dV u) = wV (u.list.getD i 0) :: (dV u).drop (i + 1):=by
 rcases at8 h with rfl | rfl | rfl | rfl | rfl | rfl | rfl | rfl <;> rfl
theorem GN (u : Sha.St) : (dV u).all AV.one = true:=rfl
theorem Ik (hG : Γ 1 = Sha.K.map wV) (t : Sha.St) (ht : t.ok) (c : List UInt8) (hc : c.length = 64) (s : AS) :
  ai prog Γ 200 [.agg (dV t),aj c .any] s (fun r s'=>r = .agg (dV (Sha.mix t c))∧s' = s):=by
 refine aa func200 rfl ntmps200 results200 (by simp) ?_;refine jQ fun K hK=>?_;intro o2 pQ o4 B4;refine hK _ _ ?_;clear hK K;obtain ⟨Il,uc⟩:=AS.eP B4;clear B4;refine jS (Ai @Il @Il.symm) fun K hK=>?_;intro o5 DV;have Gu : o5≠o4:=(by intro e; simp [e] at DV);have NZ : o5≠o2:=(by intro e; subst e; simp [Gu] at DV);have FM : s.av o5 = none:=(by simpa [Gu,NZ] using DV);clear DV;refine hK _ _ ?_;clear hK K;obtain ⟨Z,hZ⟩ : ∃ Z : List AV,Z = [wV 0,wV 0,wV 0,wV 0,wV 0,wV 0,wV 0,wV 0]:=⟨_,rfl⟩;have hZl : Z.length = 8:=(by rw [hZ]; rfl);rw [show ([AV.v (.int .u32 0),AV.v (.int .u32 0),AV.v (.int .u32 0),AV.v (.int .u32 0),AV.v (.int .u32 0),AV.v (.int .u32 0),AV.v (.int .u32 0),AV.v (.int .u32 0)] : List AV) = Z from hZ.symm];refine wK fun K hK=>?_;refine jQ fun K hK=>?_;rw [show AV.sl 1 c.length (List.map ah c) .any = aj c .any from rfl];refine ad (B3 c hc _) ?_;rintro r sa ⟨rfl,rfl⟩;refine jR hK ?_;clear hK K;obtain ⟨W,hW⟩ : ∃ W,W = Sha.lk c 64:=⟨_,rfl⟩;have Mc : W.length = 64:=(by rw [hW,Sha.cq]);rw [← hW];refine ag ?_;refine aC (fun E s1=>∃ i : Nat,i≤64∧E 2 = .ptr o2 0∧E 4 = .ptr o4 0∧E 5 = .ptr o5 0∧E 15 = .agg (W.map wV)∧E 16 = .v (.int .i64 i)∧s1 = ((s.set o2 (dV t)).set o4 Z).set o5 (dV (Sha.rounds W t i)))
  (fun E _=>match E 16 with | .v (.int _ i)=>64 - i.toNat | _=>0) ?_ ?_
 ·exact ⟨0,by omega,by simp [aF],by simp [aF],by simp [aF],by simp [aF],by simp [aF],rfl⟩
 ·rintro E1 s1 ⟨i,hi,e2,e4,e5,Mi,GO,rfl⟩ -
  by_cases aX : i < 64
  ·have fu : (i : Int) < 64:=(by omega);have Ev : (i : Int) < ((64 : Nat) : Int):=(by omega);have fX : (0 : Int)≤(i : Int):=(by omega);refine jB (Ai @GO (decide_eq_true fu)) ?_;refine wK fun K2 aV=>?_;refine jE ?_;refine ab ?_;refine aV _ _ ?_;clear aV K2;refine wK fun K3 br=>?_;refine ag ?_;have hwi:=xQ W i (by omega);have hki:=xQ Sha.K i (by rw [show Sha.K.length = 64 from rfl]; omega);have iG:=Sha.tY (w:=W) ht i;have PG : Sha.rounds W t (i + 1) = (Sha.rounds W t i).step (Sha.K.getD i 0) (W.getD i 0):=rfl;generalize W.getD i 0 = wi at *
   generalize Sha.K.getD i 0 = ki at *
   generalize hu : Sha.rounds W t i = u at *
   have KJ : List.drop i (Sha.K.map wV) = wV ki :: List.drop (i + 1) (Sha.K.map wV):=drop_cons _ _ _ hki;refine jB (Ai @Mi (Ai @GO (Ai @fX (Ai @fu (Ai @Ev @hwi))))) ?_;refine dL T.mixed [(o5,dV u)] [] [1,3] [] (by kernel_rfl) (by simp only [aG,aJ,and_true]; simp [AS.set,aF]) ?_;intro K hK;simp only [↓bp,↓a7,dh,dd,aO,aS,aG,aJ,List.any_cons,List.any_nil,List.contains_cons,List.contains_nil,Nat.reduceBEq,Bool.or_false,Bool.or_true,Bool.or_self,Bool.false_or,↓DN,Qa,Qb,Qc,Qd,Qe,Qf,Qg,Qh,reduceCtorEq,↓reduceIte,Na,Nb,Nc,Nk,Nf,Ng,Nh,Za,Zb,Zc,TT,e5,c8];refine hK _ _ ?_;clear hK K;refine dL T.mixed [(o5,dV u)] [3] [1,7,12] [] (by kernel_rfl) (by simp only [aG,aJ,and_true]; simp [AS.set,aF]) ?_;intro K hK;simp only [↓bp,↓a7,dh,dd,aO,aS,aG,aJ,List.any_cons,List.any_nil,List.contains_cons,List.contains_nil,Nat.reduceBEq,Bool.or_false,Bool.or_true,Bool.or_self,Bool.false_or,↓DN,Qa,Qb,Qc,Qd,Qe,Qf,Qg,Qh,reduceCtorEq,↓reduceIte,Na,Nb,Nc,Nk,Nf,Ng,Nh,Za,Zb,Zc,TT,e5,GO,c8];have FN : ∀ {a b : Nat},a < 4294967296→b < 4294967296→a &&& b < 4294967296:=fun {a b} ha hb=>Nat.lt_of_le_of_lt Nat.and_le_left ha;have Xw : ∀ {a b : Nat},a < 4294967296→b < 4294967296→a ^^^ b < 4294967296:=fun {a b} ha hb=>Nat.xor_lt_two_pow (n:=32) ha hb;have hn : 4294967295 - u.e < 4294967296:=(by omega);refine ad (sK u.e 6 11 25 iG.e (by omega) (by omega) (by omega) (by omega) (by omega) (by omega) _) ?_;rintro r sb ⟨rfl,rfl⟩;simp only [↓cj,↓bM,bY,↓bp,↓a7,dh,dd,aO,aS,aG,aJ,List.any_cons,List.any_nil,DX,Nat.reduceBEq,↓DN,Qa,Qb,Qc,Qd,Qe,Qf,Qg,Qh,reduceCtorEq,↓reduceIte,Na,Nb,Nc,Nk,Nf,Ng,Nh,Za,Zb,Zc,TT,e5,GO,c8,hG,KJ,fX,Ev,sJ,zk u.e u.f iG.e iG.f,Xt u.e iG.e,zk (4294967295 - u.e) u.g hn iG.g,oc (u.e &&& u.f) ((4294967295 - u.e) &&& u.g) (FN iG.e iG.f) (FN hn iG.g)];refine hK _ _ ?_;clear hK K;refine dL T.mixed [(o5,dV u)] [1] [4,8,12,14] [] (by kernel_rfl) (by simp only [aG,aJ,and_true]; simp [AS.set,aF]) ?_;intro K hK;simp only [↓bp,↓a7,dh,dd,aO,aS,aG,aJ,List.any_cons,List.any_nil,List.contains_cons,List.contains_nil,Nat.reduceBEq,Bool.or_false,Bool.or_true,Bool.or_self,Bool.false_or,↓DN,Qa,Qb,Qc,Qd,Qe,Qf,Qg,Qh,reduceCtorEq,↓reduceIte,Na,Nb,Nc,Nk,Nf,Ng,Nh,Za,Zb,Zc,TT,e5,c8];refine ad (sK u.a 2 13 22 iG.a (by omega) (by omega) (by omega) (by omega) (by omega) (by omega) _) ?_;rintro r sb ⟨rfl,rfl⟩;simp only [↓cj,↓bM,bY,↓bp,↓a7,dh,dd,aO,aS,aG,aJ,List.any_cons,List.any_nil,DX,Nat.reduceBEq,↓DN,Qa,Qb,Qc,Qd,Qe,Qf,Qg,Qh,reduceCtorEq,↓reduceIte,Na,Nb,Nc,Nk,Nf,Ng,Nh,Za,Zb,Zc,TT,e5,c8,sJ,zk u.a u.b iG.a iG.b,zk u.a u.c iG.a iG.c,zk u.b u.c iG.b iG.c,oc (u.a &&& u.b) (u.a &&& u.c) (FN iG.a iG.b) (FN iG.a iG.c),oc ((u.a &&& u.b) ^^^ (u.a &&& u.c)) (u.b &&& u.c) (Xw (FN iG.a iG.b) (FN iG.a iG.c)) (FN iG.b iG.c)];refine hK _ _ ?_;clear hK K;refine jD (Ai @e5 (Ai @c8 @sJ)) ?_;simp only [ar,az,if_true,if_false];refine br _ _ ?_;clear br K3;refine jD (Ai @GO (cE i (by omega))) ?_;refine ⟨⟨i + 1,by omega,e2,e4,e5,Mi,rfl,?_⟩,?_⟩
   ·rw [PG];simp only [dV,Sha.St.step,Sha.t1,Sha.t2]
   ·simp only [GO,aF,↓reduceIte];omega
  ·have fu : ¬ (i : Int) < 64:=(by omega);obtain rfl : i = 64:=(by omega);refine jB (Ai @GO (decide_eq_false fu)) ?_;refine wK fun K2 aV=>?_;refine jF ?_;refine aA ?_;simp only [az,ar,if_true];clear aV K2;refine hK _ _ ?_;clear hK K;have N0 : Sha.mix t c = t.add (Sha.rounds W t 64):=(by rw [hW]; rfl);rw [N0];generalize Sha.rounds W t 64 = u;rw [← AD t u];refine wK fun K hK=>?_;refine jA ?_;refine ag ?_;refine aC (fun E s1=>∃ i : Nat,i≤8∧E 2 = .ptr o2 0∧E 4 = .ptr o4 0∧E 5 = .ptr o5 0∧E 83 = .v (.int .i64 i)∧s1.av o2 = some (xR t u i)∧s1.av o5 = some (dV u)∧s1.av o4 = some Z∧s.le s1)
    (fun E _=>match E 83 with | .v (.int _ i)=>8 - i.toNat | _=>0) ?_ ?_
   ·refine ⟨0,by omega,e2,e4,e5,rfl,?_,AS.ae _ _ _,?_,AS.aE (AS.aE (AS.aE (AS.le.refl s) pQ _) uc _) FM _⟩
    ·rw [AS.ao _ NZ.symm,AS.ao _ Il.symm,AS.ae]
    ·rw [AS.ao _ Gu.symm,AS.ae]
   ·rintro E2 s2 ⟨i,hi,g2,g4,g5,S8,j2,j5,j4,hle⟩ -
    by_cases aX : i < 8
    ·have fu : (i : Int) < 8:=(by omega);have fX : (0 : Int)≤(i : Int):=(by omega);refine jB (Ai @S8 (decide_eq_true fu)) ?_;refine wK fun K2 aV=>?_;refine jE ?_;refine ab ?_;refine aV _ _ ?_;clear aV K2;refine wK fun K3 br=>?_;refine ag ?_;refine jB @S8 ?_;have d2:=AF t u i aX;have d5:=xU u i aX;have ck:=DU t u i aX;have hlen:=DS t u i hi;generalize t.list.getD i 0 = x at *
     generalize u.list.getD i 0 = y at *
     obtain ⟨X,hX⟩ : ∃ X,X = xR t u i:=⟨_,rfl⟩;rw [← hX] at d2 ck hlen j2;obtain ⟨Y,hY⟩ : ∃ Y,Y = dV u:=⟨_,rfl⟩;rw [← hY] at d5 j5;refine cH T.mixed [(o2,X),(o5,Y)] [] [2,5] [8] (by kernel_rfl) (by simp only [aG,aJ,and_true]; simp [AS.set,aF,j2,j5]) ?_;intro K hK;simp only [↓bp,↓a7,dh,dd,aO,aS,aG,aJ,List.any_cons,List.any_nil,List.contains_cons,List.contains_nil,Nat.reduceBEq,Bool.or_false,Bool.or_true,Bool.or_self,Bool.false_or,↓DN,Qa,Qb,Qc,Qd,Qe,Qf,Qg,Qh,reduceCtorEq,↓reduceIte,Na,Nb,Nc,Nk,Nf,Ng,Nh,Za,Zb,Zc,TT,g2,g5,S8,c8,fX,fu,d2,d5,NZ,NZ.symm,j2,j5,sJ,ck,hlen];refine ⟨by omega,hK _ _ ?_⟩;clear hK K;simp only [ar,az,if_true,if_false];refine br _ _ ?_;clear br K3;refine jD (Ai @S8 (cE i (by omega))) ?_;refine ⟨⟨i + 1,by omega,g2,g4,g5,rfl,AS.ae _ _ _,by rw [AS.ao _ NZ,j5,hY],by rw [AS.ao _ Il]; exact j4,AS.aE hle pQ _⟩,?_⟩;simp only [S8,aF,↓reduceIte];omega
    ·have fu : ¬ (i : Int) < 8:=(by omega);obtain rfl : i = 8:=(by omega);refine jB (Ai @S8 (decide_eq_false fu)) ?_;refine wK fun K2 aV=>?_;refine jF ?_;refine aA ?_;simp only [az,ar,if_true];clear aV K2;refine hK _ _ ?_;clear hK K;rw [AE] at j2;have bR:=GN (t.add u);have hlen : (dV (t.add u)).length = 8:=rfl;have dN : List.take 8 (dV (t.add u)) = dV (t.add u):=rfl;obtain ⟨X,hX⟩ : ∃ X,X = dV (t.add u):=⟨_,rfl⟩;rw [← hX] at j2 bR hlen dN ⊢;refine jS (Ai @g2 (Ai @g4 (Ai @j2 (Ai @j4 (Ai @hlen (Ai @dN @bR)))))) fun K hK=>?_;rw [bA Z X (by omega)];refine ⟨by omega,hK _ _ ?_⟩;clear hK K;refine aW ?_;refine ev (v:=.agg X) (o:=o4) (off:=0) g4 (AS.ae _ _ _) (by rw [T.Q5]; decide) (by simp only [↓DN,Qa,Qb,Qc,Qd,Qe,Qf,Qg,Qh,reduceCtorEq,↓reduceIte,Na,Nb,Nc,Nk,Nf,Ng,Nh,Za,Zb,Zc,TT,hlen,dN]) ?_;exact ⟨_,s,AV.aB.refl _,AS.aE hle uc _,rfl,rfl⟩
theorem qH : ((0 : Nat) : Int) = 0:=rfl
theorem FO (n : Nat) (hn : n≤2 ^ 45) (s : AS) :
  ai prog Γ 216 [.v (.slice none 0 0),.v (.int .i64 (n : Int))] s (fun r s'=>dE s [] r s'):=by
 refine aa func216 rfl ntmps216 results216 (by simp) ?_;have yF : ¬ ((n : Int) < 0):=(by omega);have oZ : dC .i64 (n : Int) (dC .i64 ((0 : Nat) : Int) ((0 : Nat) : Int)) = (n : Int):=by
  rw [show dC .i64 ((0 : Nat) : Int) ((0 : Nat) : Int) = 0 from by decide,cf (by omega)];omega
 refine jA ?_;refine wK fun K hK=>?_;refine jB (decide_eq_false yF) ?_;refine jF ?_;refine ab ?_;refine hK _ _ ?_;clear hK K;refine wK fun K hK=>?_;refine jB @oZ ?_;have DI : ∀ (E : Env) (r : AV) (s1 : AS),E 0 = r→dE s [] r s1→K E s1:=by
  intro E r s1 h0 h1;refine hK _ _ ?_;clear hK K;refine jB @h0 ?_;refine jI ?_;exact ⟨_,_,AV.aB.refl _,AS.le.refl _,h1⟩
 clear hK;by_cases h0 : n = 0
 ·subst h0;refine jA ?_;refine wC fun X Y hX hY=>?_;simp only [UP,DF,Nc,↓reduceIte,DB];refine ⟨fun h=>absurd h (by decide),fun _=>hY ?_⟩;clear hX hY X Y;refine ab ?_;exact DI _ _ _ (by simp only [aF,bz,Nc,↓reduceIte]; rfl) (dE.nil s)
 ·have hgt : (0 : Int) < (n : Int):=(by omega);refine jB (decide_eq_true hgt) ?_;refine jE ?_;refine xf (k:=.i64) (e:=5) (z:=[.v (.int .u8 0)]) rfl rfl rfl (by decide) rfl rfl rfl (by decide) underlying23 underlying23 underlying3 ⟨T.z5,by rw [T.c5]; decide,by rw [T.c5]; rfl⟩ T.c5 ?_;intro ops;refine jP @qH ?_;refine ⟨n,rfl,h0,by omega,by omega,fun t v ht=>?_⟩;exact DI _ (.sl 1 0 [] (.own t 0)) _ rfl ⟨AS.bq (AS.le.refl s) ht 0,.inr ⟨t,0,ht,AS.iT _ _ _,rfl⟩⟩
def fQ (ls : List (List UInt8)) : List AV:=ls.map fun l=>aj l .any
theorem xV (ls : List (List UInt8)) (i : Nat) (h : i < ls.length) : List.take 1 (List.drop i (fQ ls)) = [aj ls[i] .any]:=by
 have : (fQ ls)[i]? = some (aj ls[i] .any):=(by simp [fQ,h]);rw [drop_cons _ _ _ this];rfl
theorem AG (ls : List (List UInt8)) (i : Nat) (h : i < ls.length) : (ls.take (i + 1)).flatten = (ls.take i).flatten ++ ls[i]:=by
 rw [List.take_succ_eq_append_getElem h,List.flatten_append,List.flatten_cons,List.flatten_nil,List.append_nil]
theorem GP (ls : List (List UInt8)) (i : Nat) : (ls.take i).flatten.length≤ls.flatten.length:=by
 have : ls.flatten = (ls.take i).flatten ++ (ls.drop i).flatten:=(by rw [← List.flatten_append,List.take_append_drop]);rw [this,List.length_append];omega
theorem kn (ls : List (List UInt8)) (sp : Sp) (hn : ls.length≤2 ^ 45) (hl : ls.flatten.length≤2 ^ 45) (s : AS) :
  ai prog Γ 186 [.sl 1 ls.length (fQ ls) sp] s (fun r s'=>dE s ls.flatten r s'):=by
 refine aa func186 rfl ntmps186 results186 (by simp) ?_;refine jA ?_;refine jA ?_;refine wK fun K hK=>?_;refine jA ?_;refine ag ?_;refine aC (fun E s1=>∃ i : Nat,i≤ls.length∧E 0 = .sl 1 ls.length (fQ ls) sp∧E 3 = .v (.int .i64 ((ls.take i).flatten.length : Nat))∧E 9 = .sl 1 ls.length (fQ ls) sp∧E 10 = .v (.int .i64 ls.length)∧E 11 = .v (.int .i64 i)∧s1 = s)
  (fun E _=>match E 11 with | .v (.int _ i)=>ls.length - i.toNat | _=>0) ?_ ?_
 ·exact ⟨0,Nat.zero_le _,by simp [aF,bz],by simp [aF],by simp [aF,bz],by simp [aF],by simp [aF],rfl⟩
 ·rintro E1 s1 ⟨i,hi,e0,e3,e9,S9,vy,rfl⟩ -
  by_cases aX : i < ls.length
  ·have bI : (i : Int) < (ls.length : Int):=(by omega);have cz : (0 : Int)≤(i : Int):=(by omega);have oW:=GP ls (i + 1);have sL:=AG ls i aX;have fJ:=xV ls i aX;generalize ls[i] = l at *
   refine jB (Ai @S9 (Ai @vy (decide_eq_true bI))) ?_;refine wK fun K2 aV=>?_;refine jE ?_;refine ab ?_;refine aV _ _ ?_;clear aV K2;refine wK fun K3 br=>?_;refine ag ?_;refine jB (Ai @e9 (Ai @vy (Ai @cz (Ai @bI @fJ)))) ?_;have eL : dP .i64 ((ls.take i).flatten.length : Int) (l.length : Int) = ((ls.take (i + 1)).flatten.length : Int):=by
    rw [sL,List.length_append];rw [sL,List.length_append] at oW;exact fD _ _ (by omega)
   refine jB (Ai @e3 @eL) ?_;have yF : ¬ (((ls.take (i + 1)).flatten.length : Int) < 0):=(by omega);refine jB (decide_eq_false yF) ?_;refine jF ?_;refine ab ?_;simp only [az,ar,if_true,if_false];refine br _ _ ?_;clear br K3;refine jD (Ai @vy (cE i (by omega))) ?_;refine ⟨⟨i + 1,by omega,e0,rfl,e9,S9,rfl,rfl⟩,?_⟩;simp only [vy,aF,↓reduceIte];omega
  ·have bI : ¬ (i : Int) < (ls.length : Int):=(by omega);obtain rfl : i = ls.length:=(by omega);rw [List.take_of_length_le (Nat.le_refl _)] at e3;refine jB (Ai @S9 (Ai @vy (decide_eq_false bI))) ?_;refine wK fun K2 aV=>?_;refine jF ?_;refine aA ?_;simp only [az,ar,if_true];clear aV K2;refine hK _ _ ?_;clear hK K;refine jS @e3 fun K hK=>?_;refine ad (FO ls.flatten.length hl _) ?_;intro r sa bx;refine jR hK ?_;clear hK K;refine wK fun K hK=>?_;refine jB @e0 ?_;refine ag ?_;refine aC (fun E s2=>∃ i : Nat,i≤ls.length∧E 25 = .sl 1 ls.length (fQ ls) sp∧E 26 = .v (.int .i64 ls.length)∧E 27 = .v (.int .i64 i)∧dE s1 (ls.take i).flatten (E 6) s2)
    (fun E _=>match E 27 with | .v (.int _ i)=>ls.length - i.toNat | _=>0) ?_ ?_
   ·exact ⟨0,Nat.zero_le _,rfl,rfl,rfl,by simpa only [aF,Nc,↓reduceIte,List.take_zero,List.flatten_nil] using bx⟩
   ·rintro E2 s2 ⟨i,hi,Ta,SU,Xx,qW⟩ -
    by_cases aX : i < ls.length
    ·have bI : (i : Int) < (ls.length : Int):=(by omega);have cz : (0 : Int)≤(i : Int):=(by omega);have oW:=GP ls (i + 1);have sL:=AG ls i aX;have fJ:=xV ls i aX;generalize ls[i] = l at *
     refine jB (Ai @SU (Ai @Xx (decide_eq_true bI))) ?_;refine wK fun K2 aV=>?_;refine jE ?_;refine ab ?_;refine aV _ _ ?_;clear aV K2;refine wK fun K3 br=>?_;refine ag ?_;refine jB (Ai @Ta (Ai @Xx (Ai @cz (Ai @bI @fJ)))) ?_;generalize sM : E2 6 = r6 at qW;refine jU @sM fun K hK=>?_;have hb : (ls.take i).flatten.length + l.length≤2 ^ 45:=by
      rw [sL,List.length_append] at oW;omega
     refine cV qW rfl rfl T.c5 T.b5 hb ?_;intro r2 s3 PW;rw [← sL] at PW;refine hK _ _ ?_;clear hK K;simp only [az,ar,if_true,if_false];refine br _ _ ?_;clear br K3;refine jD (Ai @Xx (cE i (by omega))) ?_;refine ⟨⟨i + 1,by omega,Ta,SU,rfl,by simpa only [aF,Nc,↓reduceIte] using PW⟩,?_⟩;simp only [Xx,aF,↓reduceIte];omega
    ·have bI : ¬ (i : Int) < (ls.length : Int):=(by omega);obtain rfl : i = ls.length:=(by omega);rw [List.take_of_length_le (Nat.le_refl _)] at qW;refine jB (Ai @SU (Ai @Xx (decide_eq_false bI))) ?_;refine wK fun K2 aV=>?_;refine jF ?_;refine aA ?_;simp only [az,ar,if_true];clear aV K2;refine hK _ _ ?_;clear hK K;generalize sM : E2 6 = r6 at qW;refine jB @sM ?_;refine jI ?_;exact ⟨_,_,AV.aB.refl _,AS.le.refl _,qW⟩
theorem cg {s s' : AS} {l : List UInt8} {r : AV} (h : dE s l r s') (h0 : l≠[]) : ∃ t e,r = .sl 1 l.length (l.map ah) (.own t e):=by
 rcases h.2 with ⟨rfl,_⟩ | ⟨t,e,_,_,rfl⟩
 ·exact absurd rfl h0
 ·exact ⟨t,e,rfl⟩
theorem GQ (a : Nat) : il (a : Int) 64 = ((a % 64 : Nat) : Int):=kK a 64
theorem DW (n j : Nat) (h : j < 8) : (Sha.vC n)[j]? = some (UInt8.ofNat (8 * n / 2 ^ (8 * (7 - j)))):=by
 have : j = 0∨j = 1∨j = 2∨j = 3∨j = 4∨j = 5∨j = 6∨j = 7:=(by omega);rcases this with rfl | rfl | rfl | rfl | rfl | rfl | rfl | rfl <;> simp [Sha.vC]
theorem DY {α : Type} (l : List α) (j : Nat) (x : α) (h : l[j]? = some x) : l.take (j + 1) = l.take j ++ [x]:=by
 obtain ⟨h1,h2⟩:=List.getElem?_eq_some_iff.1 h;rw [List.take_succ_eq_append_getElem h1,h2]
theorem vZ (x : Nat) : ah (UInt8.ofNat x) = .v (.int .u8 (cB .u8 (x : Int))):=by
 rw [gh rfl];simp [ah,IntKind.bits]
theorem N1 (n j : Nat) (hj : j < 8) (hn : n≤2 ^ 45) : eC .i64 (iF .i64 8 (n : Int)) (iF .i64 8 ((7 - j : Nat) : Int)) = ((8 * n / 2 ^ (8 * (7 - j)) : Nat) : Int):=by
 rw [dJ (by omega),dJ (by omega),show (8 : Int) * (n : Int) = ((8 * n : Nat) : Int) from by omega,show (8 : Int) * ((7 - j : Nat) : Int) = ((8 * (7 - j) : Nat) : Int) from by omega,gL];simp only [IntKind.bits];rw [Nat.min_eq_left (by omega)]
theorem PX {a b : Int} (h : a≠b) : (a != b) = true:=by simpa using h
theorem PY {a b : Int} (h : a = b) : (a != b) = false:=by simpa using h
theorem N2 (n : Nat) (hn : n≤2 ^ 45) (j : Nat) (hj : j < 8) : ¬ (iF .i64 8 ((7 - j : Nat) : Int) < 0):=by
 rw [dJ (by omega)];omega
theorem B5 (l : List UInt8) (hl : l.length≤2 ^ 44) (s s1 : AS) (r0 : AV) (h : dE s l r0 s1) :
  ai prog Γ 199 [r0] s1 (fun r s'=>dE s (Sha.pad l) r s'):=by
 refine aa func199 rfl ntmps199 results199 (by simp) ?_;refine jA ?_;refine wS fun K hK=>?_;have hc : ∀ E : Env,E 0 = r0→E 3 = .v (.int .i64 l.length)→K E s1:=by
  intro E e0 e3;refine hK _ _ ?_;clear hK K;refine wS fun K hK=>?_;simp only [↓DN,Qa,Qb,Qc,Qd,Qe,Qf,Qg,Qh,reduceCtorEq,↓reduceIte,Na,Nb,Nc,Nk,Nf,Ng,Nh,Za,Zb,Zc,TT,e0,List.replicate_one,Nat.lt_irrefl];refine cV (ds:=[128]) h rfl rfl T.c5 T.b5 (by simp; omega) ?_;intro r2 s2 h2;refine hK _ _ ?_;clear hK K;refine wK fun K hK=>?_;refine ag ?_;refine aC (fun E s2=>∃ k : Nat,k≤Sha.ga l.length∧E 3 = .v (.int .i64 l.length)∧dE s (l ++ [128] ++ List.replicate k 0) (E 0) s2)
   (fun E s2=>match E 0 with | .sl _ n _ _=>l.length + 1 + Sha.ga l.length - n | _=>0) ?_ ?_
  ·exact ⟨0,Nat.zero_le _,e3,by simpa only [aF,↓reduceIte,List.replicate_zero,List.append_nil] using h2⟩
  ·rintro E2 s3 ⟨k,hk,g3,qW⟩ -
   refine wK fun K2 aV=>?_;obtain ⟨t,e,g0⟩:=cg qW (by simp);have hlen : (l ++ [128] ++ List.replicate k 0).length = l.length + 1 + k:=(by simp; omega);generalize hL : l ++ [128] ++ List.replicate k 0 = L at *
   have hLn : L≠[]:=(by intro e'; rw [e'] at hlen; simp only [List.length_nil] at hlen; omega);by_cases sr : k = Sha.ga l.length
   ·have h56 : L.length % 64 = 56:=(by rw [hlen,sr,Sha.ga]; omega);have hb:=PY (show ((L.length % 64 : Nat) : Int) = 56 by omega);refine jB (Ai @g0 (Ai @GQ @hb)) ?_;refine wC fun X Y hX hY=>?_;refine jP (Ai @DB @hb) ?_;refine hY ?_;clear hX hY X Y;refine aA ?_;simp only [az,ar,if_true];clear aV K2;refine hK _ _ ?_;clear hK K;rw [← g0];refine wK fun K hK=>?_;refine jA ?_;refine ag ?_;refine aC (fun E s2=>∃ j : Nat,j≤8∧E 3 = .v (.int .i64 l.length)∧E 4 = .v (.int .i64 ((7 : Int) - j))∧dE s (L ++ (Sha.vC l.length).take j) (E 0) s2)
     (fun E s2=>match E 4 with | .v (.int _ i)=>(i + 1).toNat | _=>0) ?_ ?_
    ·exact ⟨0,by omega,g3,rfl,by simpa only [aF,Nc,↓reduceIte,List.take_zero,List.append_nil] using qW⟩
    ·rintro E3 s4 ⟨j,hj,f3,f4,vD⟩ -
     refine wK fun K2 aV=>?_;obtain ⟨t',e',f0⟩:=cg vD (by simp [hLn]);by_cases jZ : j < 8
     ·have cz : (0 : Int)≤(7 : Int) - j:=(by omega);refine jB (Ai @f4 (decide_eq_true cz)) ?_;refine jE ?_;refine ab ?_;refine aV _ _ ?_;clear aV K2;refine wK fun K3 br=>?_;refine ag ?_;have e7 : (7 : Int) - j = ((7 - j : Nat) : Int):=(by omega);rw [e7] at f4;have wZ:=N2 l.length (by omega) j jZ;have hsh:=N1 l.length j jZ (by omega);generalize sM : E3 0 = r6 at vD;refine wE fun K hK=>?_;simp only [↓DN,Qa,Qb,Qc,Qd,Qe,Qf,Qg,Qh,reduceCtorEq,↓reduceIte,Na,Nb,Nc,Nk,Nf,Ng,Nh,Za,Zb,Zc,TT,sM,f3,f4,wZ,hsh,List.replicate_one,Nat.lt_irrefl];refine cV (ds:=[UInt8.ofNat (8 * l.length / 2 ^ (8 * (7 - j)))]) vD rfl (by rw [List.map_cons,vZ]; rfl) T.c5 T.b5 (by rw [List.length_append,List.length_take,hlen]; unfold Sha.ga at hk; simp only [List.length_cons,List.length_nil]; omega) ?_;intro r2 s5 h5;rw [List.append_assoc,← DY _ _ _ (DW l.length j jZ)] at h5;refine hK _ _ ?_;clear hK K;simp only [az,ar,if_true,if_false];refine br _ _ ?_;clear br K3;have xa3 : dC .i64 ((7 - j : Nat) : Int) 1 = (7 : Int) - ((j + 1 : Nat) : Int):=by
       rw [cf (by omega)];omega
      refine jD (Ai @f4 @xa3) ?_;refine ⟨⟨j + 1,by omega,f3,rfl,by simpa only [aF,Nc,↓reduceIte] using h5⟩,?_⟩;simp only [f4,aF,↓reduceIte];omega
     ·have cz : ¬ (0 : Int)≤(7 : Int) - j:=(by omega);obtain rfl : j = 8:=(by omega);refine jB (Ai @f4 (decide_eq_false cz)) ?_;refine jF ?_;refine aA ?_;simp only [az,ar,if_true];clear aV K2;refine hK _ _ ?_;clear hK K;have pK : L ++ (Sha.vC l.length).take 8 = Sha.pad l:=by
       rw [← hL,sr,Sha.pad,show (Sha.vC l.length).take 8 = Sha.vC l.length from rfl];simp
      rw [pK] at vD;generalize sM : E3 0 = r6 at vD;refine jB @sM ?_;refine jI ?_;exact ⟨_,_,AV.aB.refl _,AS.le.refl _,vD⟩
   ·have h56 : L.length % 64≠56:=(by rw [hlen]; unfold Sha.ga at hk sr; omega);have hb:=PX (show ((L.length % 64 : Nat) : Int)≠56 by omega);refine jB (Ai @g0 (Ai @GQ @hb)) ?_;refine wC fun X Y hX hY=>?_;refine jP (Ai @DB @hb) ?_;refine hX ?_;clear hX hY X Y;refine ab ?_;refine aV _ _ ?_;clear aV K2;refine ag ?_;generalize sM : E2 0 = r6 at qW;refine wE fun K hK=>?_;simp only [↓DN,Qa,Qb,Qc,Qd,Qe,Qf,Qg,Qh,reduceCtorEq,↓reduceIte,Na,Nb,Nc,Nk,Nf,Ng,Nh,Za,Zb,Zc,TT,sM,List.replicate_one,Nat.lt_irrefl];refine cV (ds:=[0]) qW rfl rfl T.c5 T.b5 (by rw [hlen]; unfold Sha.ga at hk; simp; omega) ?_;intro r2 s2 h2;have hL2 : L ++ [0] = l ++ [128] ++ List.replicate (k + 1) 0:=(by rw [← hL,List.replicate_succ',List.append_assoc _ (List.replicate k 0)]);rw [hL2] at h2;refine hK _ _ ?_;clear hK K;simp only [az,ar,if_true,if_false];obtain ⟨t2,e2,q0⟩:=cg h2 (by simp);refine ⟨⟨k + 1,by omega,g3,by simpa only [aF,↓reduceIte] using h2⟩,?_⟩;rw [sM] at g0;simp only [aF,↓reduceIte,sM,q0,g0,List.length_append,List.length_replicate,List.length_cons,List.length_nil,hlen];omega
 rcases h.2 with ⟨rfl,rfl⟩ | ⟨t,e,_,_,rfl⟩
 ·refine jM ?_;exact hc _ (by simp only [aF,bz,Nc,↓reduceIte]; rfl) rfl
 ·refine jM ?_;exact hc _ (by simp only [aF,bz,Nc,↓reduceIte]; rfl) rfl
end Go.Proofs.YtbiefppedlodiaaGreatDoor
