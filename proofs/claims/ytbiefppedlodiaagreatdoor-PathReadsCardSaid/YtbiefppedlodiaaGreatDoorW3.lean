/- Contracts of functions, each walked once; each theorem states its conditions. -/
import Derived.Test.YtbiefppedlodiaaGreatDoorAMp6
import Derived.Test.YtbiefppedlodiaaGreatDoorW1
import Derived.Test.YtbiefppedlodiaaGreatDoorW2
import Derived.Test.YtbiefppedlodiaaGreatDoorAMp5
set_option linter.unusedSimpArgs false
set_option linter.unusedVariables false
open Nat renaming reduceLT → Na, reduceLeDiff → Nb, reduceEqDiff → Nc, reduceAdd → Nk, reduceMul → Nf, reducePow → Ng, reduceSub → Nh, reduceBEq → Nz
open Int renaming reduceLT → Za, reduceLE → Zb, reduceToNat → Zc
open And renaming intro → Ai
open Go.AM renaming ashift → Qa, aconv → Qb, aindexAddr → Qc, aindex → Qd, aslice → Qe, abuiltin → Qf, awp_reg_seq → wS, awp_reg_end → wE, awp_seq_k → wK, awp_cond_k → wC
open Go.AM.AV renaming cells → Qg, one → Qh
set_option maxRecDepth 100000
set_option maxHeartbeats 8000000
namespace Go.Proofs.YtbiefppedlodiaaGreatDoor
open Go Go.AM Go.Proofs Tryz
variable {Γ : Nat→List AV}
theorem gb {a b : Int} (h : a≠b) : (a == b) = false:=by simpa using h
theorem og {a b : Int} (h : a = b) : (a == b) = true:=by simpa using h
theorem Dy (l : List Int) (hl : l.length≤2 ^ 61) (s : AS) : ah prog Γ 197 [aR l .any] s (fun r s'=>r = .v (.bool (decide (lH l)))∧s' = s):=by
 refine ab func197 rfl ntmps197 results197 (by simp) ?_;unfold aR;refine jA ?_;refine wK fun K hK=>?_;refine jA ?_;refine al ?_;refine aE (fun E s1=>∃ i : Nat,i≤l.length∧E 7 = .v (.int .i64 i)∧E 6 = .v (.int .i64 l.length)∧E 0 = .sl 1 l.length (l.map aV) .any∧E 5 = .sl 1 l.length (l.map aV) .any∧(∀ j,j < i→AA l j)∧s1 = s)
  (fun E _=>match E 7 with | .v (.int _ i)=>l.length - i.toNat | _=>0) ?_ ?_
 ·exact ⟨0,Nat.zero_le _,by simp [aF],by simp [aF],by simp [aF,br],by simp [aF,br],by simp,rfl⟩
 ·rintro E1 s1 ⟨i,hi,h7,h6,h0,h5,cu,rfl⟩ -
  by_cases bc : i < l.length
  ·refine jB (Ai @h7 (Ai @h6 (Ai @ax (decide_eq_true bc)))) ?_;refine wK fun K2 aW=>?_;refine jE ?_;refine ag ?_;refine aW _ _ ?_;clear aW K2;refine wK fun K3 bC=>?_;refine al ?_;have dr : (0 : Int)≤(i : Int):=(by omega);have dI:=mr bc;have ie : (AA l i)→∀ E2 : Env,E2 7 = .v (.int .i64 i)→E2 6 = .v (.int .i64 l.length)→E2 0 = .sl 1 l.length (l.map aV) .any→E2 5 = .sl 1 l.length (l.map aV) .any→K3 E2 s1:=by
    intro ho E2 g7 g6 g0 g5;refine bC _ _ ?_;clear bC K3;refine jD (Ai @g7 (eE i (by omega))) ?_;refine ⟨⟨i + 1,by omega,rfl,g6,g0,g5,?_,rfl⟩,?_⟩
    ·intro j hj;by_cases Ev : j < i
     ·exact cu j Ev
     ·obtain rfl : j = i:=(by omega);exact ho
    ·simp only [h7,aF,↓reduceIte];omega
   clear bC;have kN : ¬ AA l i→decide (lH l) = false:=fun h=>decide_eq_false fun hr=>h (hr i bc);refine jB (Ai @h7 (Ai @h5 (Ai @dr (Ai @ax (Ai @bc @dI))))) ?_;by_cases h1 : l[i] < 0
   ·refine jB (decide_eq_true h1) ?_;refine jE ?_;refine jA ?_;refine a7 ?_;simp only [az,aw];simp only [cn,bz,bD,dy,List.toList_toArray,↓a8]; try simp only [UP,DF,Nc,↓reduceIte,DT]
    rw [kN (fun h=>by have:=tB bc h; omega)];exact jW ⟨rfl,rfl⟩
   by_cases h2 : 32≤l[i]
   ·refine jB (Ai (decide_eq_false h1) (decide_eq_true h2)) ?_;refine jE ?_;refine jA ?_;refine a7 ?_;simp only [az,aw];simp only [cn,bz,bD,dy,List.toList_toArray,↓a8]; try simp only [UP,DF,Nc,↓reduceIte,DT]
    rw [kN (fun h=>by have:=tB bc h; omega)];exact jW ⟨rfl,rfl⟩
   by_cases h3 : (0 : Int) < (i : Int)
   ·have hj : i - 1 < l.length:=(by omega);have p8 : eC .i64 (i : Int) 1 = ((i - 1 : Nat) : Int):=(by rw [dM (by omega)]; omega);have xa:=mr hj;have qM : (0 : Int)≤((i - 1 : Nat) : Int):=(by omega);by_cases h4 : l[i]≤l[i - 1]
    ·refine jB (Ai (decide_eq_false h1) (Ai (decide_eq_false h2) (Ai (decide_eq_true h3) (Ai @h0 (Ai @p8 (Ai @qM (Ai @ax (Ai @hj (Ai @xa (decide_eq_true h4)))))))))) ?_;refine jE ?_;refine jA ?_;refine a7 ?_;simp only [az,aw];simp only [cn,bz,bD,dy,List.toList_toArray,↓a8]; try simp only [UP,DF,Nc,↓reduceIte,DT]
     rw [kN (fun h=>by have:=(tB bc h).2.2 (by omega); omega)];exact jW ⟨rfl,rfl⟩
    ·refine jB (Ai (decide_eq_false h1) (Ai (decide_eq_false h2) (Ai (decide_eq_true h3) (Ai @h0 (Ai @p8 (Ai @qM (Ai @ax (Ai @hj (Ai @xa (decide_eq_false h4)))))))))) ?_;refine jF ?_;refine ag ?_;simp only [aw,az,if_true,if_false];exact ie (IM bc (by omega) (by omega) (fun _=>by omega)) _ h7 h6 h0 h5
   ·refine jB (Ai (decide_eq_false h1) (Ai (decide_eq_false h2) (decide_eq_false h3))) ?_;refine jF ?_;refine ag ?_;simp only [aw,az,if_true,if_false];exact ie (IM bc (by omega) (by omega) (fun q=>by omega)) _ h7 h6 h0 h5
  ·refine jB (Ai @h7 (Ai @h6 (Ai @ax (decide_eq_false bc)))) ?_;refine wK fun K2 aW=>?_;refine jF ?_;refine aC ?_;simp only [az,aw,if_true];refine hK _ _ ?_;clear hK aW K K2;refine jA ?_;refine jI ?_;refine jW ⟨?_,rfl⟩;rw [decide_eq_true (show lH l from fun j hj=>cu j (by omega))]
theorem rZ (N : ao) (s : AS) : ah prog Γ 196 [.agg N.cells] s (fun r s'=>r = .v (.bool (decide N.held))∧s' = s):=by
 refine ab func196 rfl ntmps196 results196 (by simp) ?_;unfold ao.cells;obtain ⟨k,m,y,p,u⟩:=N;refine aU 1 (by simp [bU]) ?_;intro K hK;refine jN @aR.eq_1 ?_;intro o ho;refine hK _ _ o _ rfl ho ?_;clear hK K ho;have hr : ∀ b,(ao.held ⟨k,m,y,p,u⟩↔b = true)→decide (ao.held ⟨k,m,y,p,u⟩) = b:=by
  intro b h;cases b
  ·exact decide_eq_false (fun h2=>by have:=h.1 h2; cases this)
  ·exact decide_eq_true (h.2 rfl)
 by_cases h1 : 2≤(y : Int)∧(y : Int)≤2305843009213693949
 ·have hd : (decide (2≤(y : Int)) && decide ((y : Int)≤2305843009213693949)) = true:=(by simp; omega);by_cases h2 : p.length = 0
  ·refine jQ fun K hK=>?_;refine ad (ca y s) ?_;rintro r s' ⟨rfl,rfl⟩;rw [hd];refine jV (Ai @h2 (show (((0 : Nat) : Int) == 0) = true from rfl)) hK ?_;clear hK K;refine jI ?_;rw [hr true ⟨fun _=>rfl,fun _=>⟨by simp only; omega,by simp only; omega,.inl h2⟩⟩];exact jW ⟨rfl,rfl⟩
  ·by_cases h3 : p.length = 32
   ·refine jQ fun K hK=>?_;refine ad (ca y s) ?_;rintro r s' ⟨rfl,rfl⟩;rw [hd];refine jV (Ai @h3 (Ai (show (((32 : Nat) : Int) == 0) = false from rfl) (show (((32 : Nat) : Int) == 32) = true from rfl))) hK ?_;clear hK K;refine jI ?_;rw [hr true ⟨fun _=>rfl,fun _=>⟨by simp only; omega,by simp only; omega,.inr h3⟩⟩];exact jW ⟨rfl,rfl⟩
   ·refine jQ fun K hK=>?_;refine ad (ca y s) ?_;rintro r s' ⟨rfl,rfl⟩;rw [hd];refine jV (Ai (gb (show (p.length : Int)≠0 by omega)) (gb (show (p.length : Int)≠32 by omega))) hK ?_;clear hK K;refine jI ?_;rw [hr false ⟨fun h=>by have:=h.2.2; simp only at this; omega,fun h=>by cases h⟩];exact jW ⟨rfl,rfl⟩
 ·have hd : (decide (2≤(y : Int)) && decide ((y : Int)≤2305843009213693949)) = false:=(by simp; omega);refine jQ fun K hK=>?_;refine ad (ca y s) ?_;rintro r s' ⟨rfl,rfl⟩;rw [hd];refine jR hK ?_;clear hK K;refine jI ?_;rw [hr false ⟨fun h=>by have:=h.1; have:=h.2.1; simp only at *; omega,fun h=>by cases h⟩];exact jW ⟨rfl,rfl⟩
theorem Dz : (AV.agg [.v (.int .i64 0),.v (.slice none 0 0),.v (.int .u64 0),.v (.slice none 0 0),.v (.slice none 0 0)]).aA (.agg ao.kA.cells) :=
 AV.j9 (.cons (AV.aA.refl _) (.cons AV.aJ (.cons (AV.aA.refl _) (.cons AV.aJ (.cons AV.aJ .nil)))))
theorem kD (N : ao) (hl : N.kY.length≤2 ^ 61) (s : AS) : ah prog Γ 161 [.agg N.cells] s (fun r s'=>r = .v (.bool (decide N.right))∧s' = s):=by
 refine ab func161 rfl ntmps161 results161 (by simp) ?_;unfold ao.cells;obtain ⟨k,m,y,p,u⟩:=N;refine aU 1 (by simp [bU]) ?_;intro K hK;refine jN @aR.eq_1 ?_;intro o ho;refine hK _ _ o _ rfl ho ?_;clear hK K ho;have r3 : ∀ b,(ao.right ⟨k,m,y,p,u⟩↔b = true)→decide (ao.right ⟨k,m,y,p,u⟩) = b:=by
  intro b h;cases b
  ·exact decide_eq_false (fun h2=>by have:=h.1 h2; cases this)
  ·exact decide_eq_true (h.2 rfl)
 refine wK fun K hK=>?_;refine jA ?_;refine al ?_;by_cases h0 : k = 0
 ·refine jB (og h0) ?_;refine jE ?_;refine jS @aR.eq_1 fun K hK=>?_;refine ad (ah.iU (.cons (AV.aA.refl _) (.cons Dz .nil)) (ze ⟨k,m,y,p,u⟩ ao.kA hl s)) ?_;rintro r s' ⟨rfl,rfl⟩;refine jR hK ?_;clear hK K;refine a7 ?_;simp only [az,aw];simp only [cn,bz,bD,dy,List.toList_toArray,↓a8]; try simp only [UP,DF,Nc,↓reduceIte,DT]
  refine jW ⟨?_,rfl⟩;rw [r3 _ ((yJ (N:=⟨k,m,y,p,u⟩) h0).trans decide_eq_true_iff.symm)]
 by_cases h1 : k = 1
 ·have I6:=m8 (N:=⟨k,m,y,p,u⟩) h1;simp only at I6;rcases ff4 (decide (1≤(m.length : Int))) (decide ((m.length : Int)≤16)) (decide (ao.held ⟨k,m,y,p,u⟩)) ((u.length : Int) == 0) with hd | hd | hd | hd | hd;case inl | inr.inl =>
   refine jB (gb h0) ?_;refine jF ?_;refine jB (og h1) ?_;refine jE ?_;refine jB (Ai @hd @aR.eq_1) ?_;refine a7 ?_;simp only [az,aw];simp only [cn,bz,bD,dy,List.toList_toArray,↓a8]; try simp only [UP,DF,Nc,↓reduceIte,DT]
   refine jW ⟨?_,rfl⟩;simp only [decide_eq_true_eq,decide_eq_false_iff_not,beq_iff_eq] at hd;rw [r3 false ⟨fun h=>by have:=I6.1 h; omega,fun h=>by cases h⟩]
  all_goals
   refine jB (gb h0) ?_;refine jF ?_;refine jB (og h1) ?_;refine jE ?_;refine jS (Ai @hd @aR.eq_1) fun K hK=>?_;refine ad (rZ ⟨k,m,y,p,u⟩ s) ?_;rintro r s' ⟨rfl,rfl⟩;refine jV (Ai @hd @aR.eq_1) hK ?_;clear hK K;refine a7 ?_;simp only [az,aw];simp only [cn,bz,bD,dy,List.toList_toArray,↓a8]; try simp only [UP,DF,Nc,↓reduceIte,DT]
   refine jW ⟨?_,rfl⟩;simp only [decide_eq_true_eq,decide_eq_false_iff_not,beq_iff_eq,beq_eq_false_iff_ne] at hd
  ·rw [r3 false ⟨fun h=>absurd (I6.1 h).2.2.1 hd.2.2,fun h=>by cases h⟩]
  ·rw [r3 false ⟨fun h=>by have:=(I6.1 h).2.2.2; omega,fun h=>by cases h⟩]
  ·rw [r3 true ⟨fun _=>rfl,fun _=>I6.2 ⟨by omega,by omega,hd.2.2.1,by omega⟩⟩]
 by_cases h2 : k = 2
 ·have I6:=m9 (N:=⟨k,m,y,p,u⟩) h2;simp only at I6 hl;rcases ff3 ((m.length : Int) == 0) (decide (ao.held ⟨k,m,y,p,u⟩)) (decide (lH u)) with hd | hd | hd | hd;all_goals
   refine jB (gb h0) ?_;refine jF ?_;refine jB (gb h1) ?_;refine jF ?_;refine jB (og h2) ?_;refine jE ?_
  ·refine jB (Ai @hd @aR.eq_1) ?_;refine a7 ?_;simp only [az,aw];simp only [cn,bz,bD,dy,List.toList_toArray,↓a8]; try simp only [UP,DF,Nc,↓reduceIte,DT]
   refine jW ⟨?_,rfl⟩;simp only [beq_eq_false_iff_ne] at hd;rw [r3 false ⟨fun h=>by have:=(I6.1 h).1; omega,fun h=>by cases h⟩]
  ·refine jS (Ai @hd @aR.eq_1) fun K hK=>?_;refine ad (rZ ⟨k,m,y,p,u⟩ s) ?_;rintro r s' ⟨rfl,rfl⟩;refine jV (Ai @hd @aR.eq_1) hK ?_;clear hK K;refine a7 ?_;simp only [az,aw];simp only [cn,bz,bD,dy,List.toList_toArray,↓a8]; try simp only [UP,DF,Nc,↓reduceIte,DT]
   refine jW ⟨?_,rfl⟩;simp only [decide_eq_false_iff_not] at hd;rw [r3 false ⟨fun h=>absurd (I6.1 h).2.1 hd.2,fun h=>by cases h⟩]
  all_goals
   refine jS (Ai @hd @aR.eq_1) fun K hK=>?_;refine ad (rZ ⟨k,m,y,p,u⟩ s) ?_;rintro r s' ⟨rfl,rfl⟩;refine jN (Ai @hd @aR.eq_1) ?_;refine ad (Dy u hl _) ?_;rintro r s' ⟨rfl,rfl⟩;refine jV (Ai @hd @aR.eq_1) hK ?_;clear hK K;refine a7 ?_;simp only [az,aw];simp only [cn,bz,bD,dy,List.toList_toArray,↓a8]; try simp only [UP,DF,Nc,↓reduceIte,DT]
   refine jW ⟨?_,rfl⟩;simp only [decide_eq_true_eq,decide_eq_false_iff_not,beq_iff_eq] at hd
  ·rw [r3 false ⟨fun h=>absurd (I6.1 h).2.2 hd.2.2,fun h=>by cases h⟩]
  ·rw [r3 true ⟨fun _=>rfl,fun _=>I6.2 ⟨by omega,hd.2.1,hd.2.2⟩⟩]
 ·refine jB (gb h0) ?_;refine jF ?_;refine jB (gb h1) ?_;refine jF ?_;refine jB (gb h2) ?_;refine jF ?_;refine ag ?_;simp only [aw,az,if_true,if_false];refine hK _ _ ?_;clear hK K;refine jA ?_;refine jI ?_;refine jW ⟨?_,rfl⟩;rw [r3 false ⟨fun h=>absurd h (Hq (N:=⟨k,m,y,p,u⟩) h0 h1 h2),fun h=>by cases h⟩]
def dD (N : ao) (st : List UInt8 × Bool) : List UInt8 × Bool:=if N.right then cx N.text st else (st.1,true)
theorem oK (N : ao) (hl : N.kY.length≤2 ^ 61) (s0 s : AS) (p : Nat) (st : List UInt8 × Bool) (ir : st.1.length + 200≤2 ^ 45) (h : eR s0 s p st) :
  ah prog Γ 236 [.ptr p 0,.agg N.cells] s (fun r s'=>r = .eJ []∧eR s0 s' p (dD N st)):=by
 refine ab func236 rfl ntmps236 results236 (by simp) ?_;unfold ao.cells;obtain ⟨k,m,y,pa,u⟩:=N;refine aU 3 (by simp [bU]) ?_;intro K hK;refine jN @aR.eq_1 ?_;intro o ho;refine hK _ _ o _ rfl ho ?_;clear hK K ho;refine wK fun K hK=>?_;refine jQ fun K hK=>?_;refine ad (kD ⟨k,m,y,pa,u⟩ hl s) ?_;rintro r s' ⟨rfl,rfl⟩;have hlen : ∀ a,(cx a st).1.length≤st.1.length + a.length:=fun a=>eT a st;by_cases hr : ao.right ⟨k,m,y,pa,u⟩
 ·rw [decide_eq_true hr];refine jR hK ?_;clear hK K;refine jF ?_;refine ag ?_;refine hK _ _ ?_;clear hK K;have Fy : dD ⟨k,m,y,pa,u⟩ st = cx (ao.text ⟨k,m,y,pa,u⟩) st:=if_pos hr;rw [Fy];rcases qC hr with hk | hk | hk
  ·simp only at hk;subst hk;refine jQ fun K hK=>?_;refine ad (eh s0 s' p st ((0 : Nat) : Int) (by omega) (by omega) h) ?_;rintro r s1 ⟨rfl,q1⟩;rw [eg (by decide)] at q1;refine jR hK ?_;clear hK K;refine wK fun K hK=>?_;refine wS fun K hK=>?_;simp only [↓DN,Qa,Qb,Qc,Qd,Qe,Qf,Qg,Qh,reduceCtorEq,↓reduceIte,Na,Nb,Nc,Nk,Nf,Ng,Nh,Za,Zb,Zc,TT,Int.reduceBEq];refine hK _ _ ?_;clear hK K;refine jE ?_;refine jI ?_;exact jW ⟨rfl,q1⟩
  ·obtain ⟨h1,h2,⟨h3,h4,h5⟩,h6⟩:=(m8 hk).1 hr;simp only at hk h1 h2 h3 h4 h5 h6;subst hk;refine jQ fun K hK=>?_;refine ad (eh s0 s' p st ((1 : Nat) : Int) (by omega) (by omega) h) ?_;rintro r s1 ⟨rfl,q1⟩;rw [eg (by decide)] at q1;refine jR hK ?_;clear hK K;refine wK fun K hK=>?_;refine wS fun K hK=>?_;simp only [↓DN,Qa,Qb,Qc,Qd,Qe,Qf,Qg,Qh,reduceCtorEq,↓reduceIte,Na,Nb,Nc,Nk,Nf,Ng,Nh,Za,Zb,Zc,TT,Int.reduceBEq];refine hK _ _ ?_;clear hK K;refine jF ?_;refine ag ?_;refine hK _ _ ?_;clear hK K;refine wK fun K hK=>?_;refine wS fun K hK=>?_;simp only [↓DN,Qa,Qb,Qc,Qd,Qe,Qf,Qg,Qh,reduceCtorEq,↓reduceIte,Na,Nb,Nc,Nk,Nf,Ng,Nh,Za,Zb,Zc,TT,Int.reduceBEq];refine hK _ _ ?_;clear hK K;refine jE ?_;refine jT fun K hK=>?_;refine ad (eH s0 s1 p _ _ m (yn.any m) (by have:=hlen (be 1 1); simp at this ⊢; omega) q1) ?_;rintro r s2 ⟨rfl,q2⟩;rw [mu (by omega),cv] at q2;refine jR hK ?_;clear hK K;refine hK _ _ ?_;clear hK K;refine jQ fun K hK=>?_;refine ad (eX s0 s2 p _ y (by omega) (by refine Nat.le_trans (Nat.add_le_add_right (hlen _) _) ?_; simp; omega) q2) ?_;rintro r s3 ⟨rfl,q3⟩;rw [gV,cv] at q3;refine jR hK ?_;clear hK K;refine jQ fun K hK=>?_;refine ad (eH s0 s3 p _ _ pa (yn.any pa) (by refine Nat.le_trans (Nat.add_le_add_right (Nat.add_le_add_right (hlen _) _) _) ?_; simp; omega) q3) ?_;rintro r s4 ⟨rfl,q4⟩;rw [mu (by omega),cv] at q4;refine jR hK ?_;clear hK K;refine wS fun K hK=>?_;simp only [↓DN,Qa,Qb,Qc,Qd,Qe,Qf,Qg,Qh,reduceCtorEq,↓reduceIte,Na,Nb,Nc,Nk,Nf,Ng,Nh,Za,Zb,Zc,TT,Int.reduceBEq];refine hK _ _ ?_;clear hK K;refine jF ?_;refine ag ?_;simp only [cn,bz,bD,dy,List.toList_toArray,↓a8]; try simp only [UP,DF,Nc,↓reduceIte,DT]
   refine jW ⟨rfl,?_⟩;rw [show ao.text ⟨1,m,y,pa,u⟩ = be 1 1 ++ (be 1 m.length ++ m) ++ be 8 y ++ (be 1 pa.length ++ pa) from rfl];exact q4
  ·obtain ⟨h1,⟨h3,h4,h5⟩,h6⟩:=(m9 hk).1 hr;simp only at hk h1 h3 h4 h5 h6;subst hk;have hu:=rR h6;refine jQ fun K hK=>?_;refine ad (eh s0 s' p st ((2 : Nat) : Int) (by omega) (by omega) h) ?_;rintro r s1 ⟨rfl,q1⟩;rw [eg (by decide)] at q1;refine jR hK ?_;clear hK K;refine wK fun K hK=>?_;refine wS fun K hK=>?_;simp only [↓DN,Qa,Qb,Qc,Qd,Qe,Qf,Qg,Qh,reduceCtorEq,↓reduceIte,Na,Nb,Nc,Nk,Nf,Ng,Nh,Za,Zb,Zc,TT,Int.reduceBEq];refine hK _ _ ?_;clear hK K;refine jF ?_;refine ag ?_;refine hK _ _ ?_;clear hK K;refine wK fun K hK=>?_;refine wS fun K hK=>?_;simp only [↓DN,Qa,Qb,Qc,Qd,Qe,Qf,Qg,Qh,reduceCtorEq,↓reduceIte,Na,Nb,Nc,Nk,Nf,Ng,Nh,Za,Zb,Zc,TT,Int.reduceBEq];refine hK _ _ ?_;clear hK K;refine jF ?_;refine ag ?_;refine hK _ _ ?_;clear hK K;refine jQ fun K hK=>?_;refine ad (eX s0 s1 p _ y (by omega) (by refine Nat.le_trans (Nat.add_le_add_right (hlen _) _) ?_; simp; omega) q1) ?_;rintro r s3 ⟨rfl,q3⟩;rw [gV,cv] at q3;refine jR hK ?_;clear hK K;refine jQ fun K hK=>?_;refine ad (eH s0 s3 p _ _ pa (yn.any pa) (by refine Nat.le_trans (Nat.add_le_add_right (Nat.add_le_add_right (hlen _) _) _) ?_; simp; omega) q3) ?_;rintro r s4 ⟨rfl,q4⟩;rw [mu (by omega),cv] at q4;refine jR hK ?_;clear hK K;refine wS fun K hK=>?_;simp only [↓DN,Qa,Qb,Qc,Qd,Qe,Qf,Qg,Qh,reduceCtorEq,↓reduceIte,Na,Nb,Nc,Nk,Nf,Ng,Nh,Za,Zb,Zc,TT,Int.reduceBEq];refine hK _ _ ?_;clear hK K;refine jE ?_;refine jQ fun K hK=>?_;refine ad (eh s0 s4 p _ (u.length : Int) (by omega) (by refine Nat.le_trans (Nat.add_le_add_right (hlen _) _) ?_; simp; omega) q4) ?_;rintro r s5 ⟨rfl,q5⟩;rw [eg (by omega),cv] at q5;obtain ⟨A,hA⟩ : ∃ A,A = be 1 2 ++ be 8 y ++ (be 1 pa.length ++ pa) ++ be 1 u.length:=⟨_,rfl⟩;have hAl : A.length≤50:=(by rw [hA]; simp; omega);rw [← hA] at q5;have OW : ao.text ⟨2,m,y,pa,u⟩ = A ++ iB u:=(by rw [hA]; rfl);refine jR hK ?_;clear hK K;refine jA ?_;refine al ?_;refine aE (fun E s2=>∃ i : Nat,i≤u.length∧E 44 = .v (.int .i64 i)∧E 43 = .v (.int .i64 u.length)∧E 42 = .sl 1 u.length (u.map aV) .any∧E 0 = .ptr p 0∧eR s0 s2 p (cx (A ++ iB (u.take i)) st))
    (fun E _=>match E 44 with | .v (.int _ i)=>u.length - i.toNat | _=>0) ?_ ?_
   ·exact ⟨0,Nat.zero_le _,rfl,rfl,rfl,by simp only [aF,br,Nc,↓reduceIte,List.getD_cons_zero],by simpa [iB] using q5⟩
   ·rintro E1 s6 ⟨i,hi,ZM,g43,g42,g0,q6⟩ -
    by_cases bc : i < u.length
    ·refine jB (Ai @ZM (Ai @g43 (Ai @ax (decide_eq_true bc)))) ?_;refine wK fun K2 aW=>?_;refine jE ?_;refine ag ?_;refine aW _ _ ?_;clear aW K2;refine wK fun K3 bC=>?_;refine al ?_;have dr : (0 : Int)≤(i : Int):=(by omega);have dI:=mr bc;have hx:=yL h6 (List.getElem_mem bc);refine jB (Ai @ZM (Ai @g42 (Ai @dr (Ai @ax (Ai @bc @dI))))) ?_;refine jU @g0 fun K hK=>?_;have hxn : u[i] = ((u[i]).toNat : Int):=(by omega);refine ad (eh s0 s6 p _ u[i] (by omega) (by refine Nat.le_trans (Nat.add_le_add_right (hlen _) _) ?_; simp [nW]; omega) q6) ?_;rintro r s7 ⟨rfl,q7⟩;rw [hxn,eg (by omega),cv,List.append_assoc,← AB,← List.take_succ_eq_append_getElem bc] at q7;refine jR hK ?_;clear hK K;simp only [aw,az,if_true,if_false];refine bC _ _ ?_;clear bC K3;refine jD (Ai @ZM (eE i (by omega))) ?_;refine ⟨⟨i + 1,by omega,rfl,g43,g42,g0,q7⟩,?_⟩;simp only [ZM,aF,↓reduceIte];omega
    ·refine jB (Ai @ZM (Ai @g43 (Ai @ax (decide_eq_false bc)))) ?_;refine wK fun K2 aW=>?_;refine jF ?_;refine aC ?_;simp only [az,aw,if_true];simp only [cn,bz,bD,dy,List.toList_toArray,↓a8]; try simp only [UP,DF,Nc,↓reduceIte,DT]
     refine jW ⟨rfl,?_⟩;rw [List.take_of_length_le (by omega)] at q6;rw [OW];exact q6
 ·rw [decide_eq_false hr];refine jR hK ?_;clear hK K;refine jE ?_;refine jQ fun K hK=>?_;refine ad (eh s0 s' p st (-1) (by omega) (by omega) h) ?_;rintro r s1 ⟨rfl,q1⟩;refine jR hK ?_;clear hK K;refine jI ?_;refine jW ⟨rfl,?_⟩;rw [show dD ⟨k,m,y,pa,u⟩ st = bf 1 (-1) st from (if_neg hr).trans (if_neg (by omega)).symm];exact q1
theorem oi (t : List ao) (ht : t.length≤2 ^ 61) (s : AS) : ah prog Γ 104 [bA t] s (fun r s'=>r = .v (.int .i64 (bj t))∧s' = s):=by
 refine ab func104 rfl ntmps104 results104 (by simp) ?_;have e0 : nC .i64 (eu .i64 (t.length : Int) 1) 2 = ((((t.length + 1) / 2 : Nat)) : Int):=(by rw [bt _ (by omega),nh _ (by omega)]);obtain ⟨h,hh⟩ : ∃ h,h = (t.length + 1) / 2:=⟨_,rfl⟩;rw [← hh] at e0;unfold bA;refine jA ?_;refine jB @e0 ?_;refine wK fun K hK=>?_;refine jQ fun K hK=>?_;refine ad (tF h _) ?_;rintro r s1 ⟨rfl,rfl⟩;by_cases hf : Fit h
 ·have Vd:=hf.le;rw [decide_eq_true (tE.2 hf)];refine jM ?_;refine ad (rj h _) ?_;rintro r s2 ⟨rfl,rfl⟩;rw [Fk hf];by_cases hw : t.length = 2 * h - 1
  ·have hl : bj t = h:=(by unfold bj; rw [← hh]; exact if_pos ⟨hf,hw⟩);refine jV (pR hw) hK ?_;clear hK K;refine jF ?_;refine ag ?_;refine hK _ _ ?_;clear hK K;refine jA ?_;refine jI ?_;rw [hl];exact jW ⟨rfl,rfl⟩
  ·have hl : bj t = 0:=(by unfold bj; rw [← hh]; exact if_neg (fun k=>hw k.2));refine jV (yP hw) hK ?_;clear hK K;refine jE ?_;refine jA ?_;refine jI ?_;rw [hl];exact jW ⟨rfl,rfl⟩
 ·have hl : bj t = 0:=(by unfold bj; rw [← hh]; exact if_neg (fun k=>hf k.1));rw [decide_eq_false (fun k=>hf (tE.1 k))];refine jR hK ?_;clear hK K;refine jE ?_;refine jA ?_;refine jI ?_;rw [hl];exact jW ⟨rfl,rfl⟩
theorem kT (t : List ao) (ht : t.length≤2 ^ 61) (i : Int) (s : AS) : ah prog Γ 142 [bA t,.v (.int .i64 i)] s (fun r s'=>r = .v (.bool (decide (eW t i)))∧s' = s):=by
 refine ab func142 rfl ntmps142 results142 (by simp) ?_;have B8:=fun s=>oi (Γ:=Γ) t ht s;unfold bA at B8 ⊢;refine jA ?_;by_cases h0 : 0≤i
 ·refine jS (decide_eq_true h0) fun K hK=>?_;refine ad (B8 _) ?_;rintro r s1 ⟨rfl,rfl⟩;by_cases h1 : i < (bj t : Int)
  ·obtain ⟨n,rfl⟩:=Int.eq_ofNat_of_zero_le h0;have hn : n < bj t:=(by omega);have ZN:=Mt hn;have hlv:=Ms t;have dI:=fY ZN;have hk : decide (eW t (n : Int)) = ((nd t (2 * n)).kind == 1):=by
    rw [Bool.eq_iff_iff,decide_eq_true_iff,beq_iff_eq];unfold eW;rw [Int.toNat_natCast];exact ⟨fun k=>k.2.2,fun k=>⟨h0,h1,k⟩⟩
   generalize nd t (2 * n) = N at *
   generalize aK ao.cells t = X at *
   obtain ⟨k,nm,y,pa,u⟩:=N;unfold ao.cells at dI;have dr : (0 : Int)≤((2 * n : Nat) : Int):=(by omega);refine jV (Ai (decide_eq_true h1) (Ai (decide_eq_true hn) (Ai (eG n (by omega)) (Ai @ax (Ai @ZN (Ai @dr @dI)))))) hK ?_;clear hK K;refine jI ?_;rw [hk];exact jW ⟨rfl,rfl⟩
  ·have hk : decide (eW t i) = false:=decide_eq_false fun k=>h1 k.2.1;refine jV (decide_eq_false h1) hK ?_;clear hK K;refine jI ?_;rw [hk];exact jW ⟨rfl,rfl⟩
 ·have hk : decide (eW t i) = false:=decide_eq_false fun k=>h0 k.1;refine jB (decide_eq_false h0) ?_;refine jI ?_;rw [hk];exact jW ⟨rfl,rfl⟩
theorem AU (t : List ao) (ht : t.length≤2 ^ 61) (a k : Nat) (hak : a + k < 2 ^ 61) (s : AS) : ah prog Γ 144 [bA t,.v (.int .i64 a),.v (.int .i64 (((a + k : Nat) : Int) - 1))] s (fun r s'=>r = .v (.int .i64 (rU (eW t) a k))∧s' = s):=by
 refine ab func144 rfl ntmps144 results144 (by simp) ?_;have hm:=fun i s=>kT (Γ:=Γ) t ht i s;unfold bA at hm ⊢;generalize aK ao.cells t = X at *
 refine jA ?_;refine jA ?_;refine wK fun K hK=>?_;refine jA ?_;refine al ?_;refine aE (fun E s2=>∃ i : Nat,i≤k∧E 8 = .v (.int .i64 ((a + i : Nat) : Int))∧E 7 = .v (.int .i64 (rU (eW t) a i))∧E 0 = .sl 5 t.length X .any∧E 2 = .v (.int .i64 (((a + k : Nat) : Int) - 1))∧s2 = s)
  (fun E _=>match E 8 with | .v (.int _ i)=>a + k - i.toNat | _=>0) ?_ ?_
 ·exact ⟨0,Nat.zero_le _,rfl,rfl,rfl,rfl,rfl⟩
 ·rintro E1 s2 ⟨i,hi,g8,g7,g0,g2,rfl⟩ -
  refine wK fun K2 aW=>?_;by_cases bc : i < k
  ·have h1 : decide (((a + i : Nat) : Int)≤((a + k : Nat) : Int) - 1) = true:=decide_eq_true (by omega);refine jB (Ai @g8 (Ai @g2 @h1)) ?_;refine jE ?_;refine ag ?_;refine aW _ _ ?_;clear aW K2;refine wK fun K3 bC=>?_;refine al ?_;have cW : ∀ (E : Env),E 8 = .v (.int .i64 ((a + i : Nat) : Int))→E 7 = .v (.int .i64 (rU (eW t) a (i + 1)))→E 0 = .sl 5 t.length X .any→E 2 = .v (.int .i64 (((a + k : Nat) : Int) - 1))→K3 E s2:=by
    intro E f8 f7 f0 f2;refine bC _ _ ?_;clear bC K3;refine jD (Ai @f8 (bt (a + i) (by omega))) ?_;refine ⟨⟨i + 1,bc,rfl,f7,f0,f2,rfl⟩,?_⟩;simp only [g8,aF,↓reduceIte];omega
   clear bC;refine jS (Ai @g0 @g8) fun K hK=>?_;refine ad (hm _ _) ?_;rintro r s3 ⟨rfl,rfl⟩;have hc:=IV (eW t) a i;by_cases hp : eW t ((a + i : Nat) : Int)
   ·rw [decide_eq_true hp];refine jR hK ?_;clear hK K;refine jE ?_;refine jD (Ai @g7 (bt (rU (eW t) a i) (by omega))) ?_;refine cW _ g8 ?_ g0 g2;have : rU (eW t) a (i + 1) = rU (eW t) a i + 1:=(by simp only [rU]; rw [if_pos hp]);rw [this];simp only [aF,Nc,↓reduceIte]
   ·rw [decide_eq_false hp];refine jR hK ?_;clear hK K;refine jF ?_;refine ag ?_;refine cW _ g8 ?_ g0 g2;have : rU (eW t) a (i + 1) = rU (eW t) a i:=(by simp only [rU]; rw [if_neg hp]; omega);rw [this];simp only [aF,g7,Nc,↓reduceIte]
  ·have h1 : decide (((a + i : Nat) : Int)≤((a + k : Nat) : Int) - 1) = false:=decide_eq_false (by omega);refine jB (Ai @g8 (Ai @g2 @h1)) ?_;refine jF ?_;refine aC ?_;simp only [az,aw,if_true];refine hK _ _ ?_;clear hK aW K2 K;obtain rfl : i = k:=(by omega);refine jB @g7 ?_;exact jJ
theorem AW (t : List ao) (ht : t.length≤2 ^ 61) (name : List UInt8) (a : Nat) (ha : a≤2 ^ 60) (s : AS) : ah prog Γ 143 [bA t,aj name .any,.v (.int .i64 a)] s (fun r s'=>r = .v (.int .i64 (nZ t name a))∧s' = s):=by
 refine ab func143 rfl ntmps143 results143 (by simp) ?_;have hm:=fun i s=>kT (Γ:=Γ) t ht i s;have dI:=fun i (h : i < t.length)=>fY (t:=t) h;obtain ⟨Q,hQ⟩ : ∃ Q : Nat→Bool,Q = fun (j : Nat)=>decide (eW t (j : Int)∧(nd t (2 * j)).name = name):=⟨_,rfl⟩;have kE : nZ t name a = cy Q (pV t - a) a:=(by rw [hQ]; rfl);unfold bA at hm ⊢;generalize aK ao.cells t = X at *
 refine jA ?_;refine wK fun K hK=>?_;refine jA ?_;refine al ?_;refine aE (fun E s2=>∃ i : Nat,i≤2 ^ 61∧a≤i∧cy Q (pV t - i) i = cy Q (pV t - a) a∧E 7 = .v (.int .i64 i)∧E 0 = .sl 5 t.length X .any∧E 1 = .sl 1 name.length (name.map ai) .any∧s2 = s)
  (fun E _=>match E 7 with | .v (.int _ i)=>pV t - i.toNat | _=>0) ?_ ?_
 ·exact ⟨a,by omega,Nat.le_refl _,rfl,rfl,rfl,rfl,rfl⟩
 ·rintro E1 s2 ⟨i,hi,hai,hf,g7,g0,g1,rfl⟩ -
  refine wK fun K2 aW=>?_;by_cases bc : i < pV t
  ·have im : 2 * i < t.length:=Mu.1 bc;refine jB (Ai @g7 (Ai @g0 (Ai (eG i (by omega)) (Ai @ax (decide_eq_true im))))) ?_;refine jE ?_;refine ag ?_;refine aW _ _ ?_;clear aW K2;refine wK fun K3 bC=>?_;refine al ?_;obtain ⟨k,hk⟩ : ∃ k,pV t - i = k + 1:=⟨pV t - i - 1,by omega⟩;have oT : pV t - (i + 1) = k:=(by omega);rw [hk] at hf;have I7 : Q i = decide (eW t i∧(nd t (2 * i)).name = name):=(by rw [hQ]);have cW : ∀ (E : Env),Q i = false→E 7 = .v (.int .i64 i)→E 0 = .sl 5 t.length X .any→E 1 = .sl 1 name.length (name.map ai) .any→K3 E s2:=by
    intro E hq f7 f0 f1;refine bC _ _ ?_;clear bC K3;refine jD (Ai @f7 (bt i (by omega))) ?_;refine ⟨⟨i + 1,by omega,by omega,by rw [oT,← hf,my hq],rfl,f0,f1,rfl⟩,?_⟩;simp only [g7,aF,↓reduceIte];omega
   clear bC;have zg:=dI (2 * i) im;generalize nd t (2 * i) = N at *
   obtain ⟨nk,nm,ny,zh,nu⟩:=N;unfold ao.cells at zg;simp only at I7;have dr : (0 : Int)≤((2 * i : Nat) : Int):=(by omega);refine jS (Ai @g0 @g7) fun K hK=>?_;refine ad (hm _ _) ?_;rintro r s3 ⟨rfl,rfl⟩;by_cases hp : eW t (i : Int)
   ·rw [decide_eq_true hp];refine jN (Ai @g0 (Ai @g7 (Ai @g1 (Ai (eG i (by omega)) (Ai @ax (Ai @im (Ai @dr @zg))))))) ?_;refine ad (dg nm name _) ?_;rintro r s4 ⟨rfl,rfl⟩;by_cases hn : nm = name
    ·rw [decide_eq_true hn];rw [decide_eq_true ⟨hp,hn⟩] at I7;refine jR hK ?_;clear hK K;refine jE ?_;refine jB @g7 ?_;refine jI ?_;rw [kE,← hf,mz I7];exact jW ⟨rfl,rfl⟩
    ·rw [decide_eq_false hn];rw [decide_eq_false (fun q=>hn q.2)] at I7;refine jR hK ?_;clear hK K;refine jF ?_;refine ag ?_;exact cW _ I7 g7 g0 g1
   ·rw [decide_eq_false hp];rw [decide_eq_false (fun q=>hp q.1)] at I7;refine jR hK ?_;clear hK K;refine jF ?_;refine ag ?_;exact cW _ I7 g7 g0 g1
  ·have im : ¬ 2 * i < t.length:=fun h=>bc (Mu.2 h);refine jB (Ai @g7 (Ai @g0 (Ai (eG i (by omega)) (Ai @ax (decide_eq_false im))))) ?_;refine jF ?_;refine aC ?_;simp only [az,aw,if_true];refine hK _ _ ?_;clear hK aW K2 K;rw [show pV t - i = 0 by omega] at hf;refine jA ?_;refine jI ?_;rw [kE,← hf];exact jW ⟨rfl,rfl⟩
theorem oL (l : List Int) (hl : l.length≤2 ^ 61) (k : FuncId) (hk : af prog k = true) (cd : List AV) (P : Int→Bool)
  (hP : ∀ x ∈ l,∀ s,ah prog Γ k (.v (.int .i64 x) :: cd) s (fun r s'=>r = .v (.bool (P x))∧s' = s)) (s : AS) :
  ah prog Γ 71 [aR l .any,.qK k cd] s (fun r s'=>r = .v (.int .i64 (cy (fun i=>P (l.getD i 0)) l.length 0))∧s' = s):=by
 refine ab func71 rfl ntmps71 results71 (by simp) ?_;obtain ⟨Q,hQ⟩ : ∃ Q : Nat→Bool,Q = fun i=>P (l.getD i 0):=⟨_,rfl⟩;rw [← hQ];unfold aR;refine jA ?_;refine wK fun K hK=>?_;refine jA ?_;refine al ?_;refine aE (fun E s2=>∃ i : Nat,i≤l.length∧cy Q (l.length - i) i = cy Q l.length 0∧E 8 = .v (.int .i64 i)∧E 7 = .v (.int .i64 l.length)∧E 0 = .sl 1 l.length (l.map aV) .any∧E 1 = .qK k cd∧s2 = s)
  (fun E _=>match E 8 with | .v (.int _ i)=>l.length - i.toNat | _=>0) ?_ ?_
 ·exact ⟨0,Nat.zero_le _,rfl,rfl,rfl,rfl,rfl,rfl⟩
 ·rintro E1 s2 ⟨i,hi,hf,g8,g7,g0,g1,rfl⟩ -
  by_cases bc : i < l.length
  ·refine jB (Ai @g8 (Ai @g7 (Ai @ax (decide_eq_true bc)))) ?_;refine wK fun K2 aW=>?_;refine jE ?_;refine ag ?_;refine aW _ _ ?_;clear aW K2;refine wK fun K3 bC=>?_;refine al ?_;have I7 : Q i = P l[i]:=(by rw [hQ]; simp [List.getD,bc]);have hc:=hP l[i] (List.getElem_mem bc) s2;rw [← I7] at hc;obtain ⟨k',Lf⟩ : ∃ k',l.length - i = k' + 1:=⟨l.length - i - 1,by omega⟩;have D8 : l.length - (i + 1) = k':=(by omega);rw [Lf] at hf;have dI:=mr bc;have dr : (0 : Int)≤(i : Int):=(by omega);refine jB @g8 ?_;refine jS (Ai @g1 (Ai @g0 (Ai @ax (Ai @bc (Ai @dr @dI))))) fun K hK=>?_;refine ⟨hk,?_⟩;refine ad hc ?_;rintro r s3 ⟨rfl,rfl⟩;cases hq : Q i with
   | true =>
    refine jR hK ?_;clear hK K;refine jE ?_;refine jA ?_;refine jI ?_;rw [← hf,mz hq];exact jW ⟨rfl,rfl⟩
   | false =>
    refine jR hK ?_;clear hK K;refine jF ?_;refine ag ?_;simp only [aw,az,if_true,if_false];refine bC _ _ ?_;clear bC K3;refine jD (Ai @g8 (bt i (by omega))) ?_;refine ⟨⟨i + 1,by omega,by rw [D8,← hf,my hq],rfl,g7,g0,g1,rfl⟩,?_⟩;simp only [g8,aF,↓reduceIte];omega
  ·refine jB (Ai @g8 (Ai @g7 (Ai @ax (decide_eq_false bc)))) ?_;refine wK fun K2 aW=>?_;refine jF ?_;refine aC ?_;simp only [az,aw,if_true];refine hK _ _ ?_;clear hK aW K2 K;rw [show l.length - i = 0 by omega] at hf;refine jA ?_;refine jI ?_;rw [← hf];exact jW ⟨rfl,rfl⟩
theorem r4 (l : List Int) (hl : l.length≤2 ^ 61) (k : FuncId) (hk : af prog k = true) (cd : List AV) (P : Int→Bool)
  (hP : ∀ x ∈ l,∀ s,ah prog Γ k (.v (.int .i64 x) :: cd) s (fun r s'=>r = .v (.bool (P x))∧s' = s)) (s : AS) :
  ah prog Γ 179 [aR l .any,.qK k cd] s (fun r s'=>r = .v (.bool (l.any P))∧s' = s):=by
 refine ab func179 rfl ntmps179 results179 (by simp) ?_;have hc:=fun s=>oL (Γ:=Γ) l hl k hk cd P hP s;have ha:=yV P l;generalize cy (fun i=>P (l.getD i 0)) l.length 0 = n at *
 refine jA ?_;refine jK (hc _) ?_;rintro s1 rfl;refine jI ?_;rw [← ha];exact jW ⟨rfl,rfl⟩
theorem FD : af prog 178 = true:=by kernel_rfl
def lL (t : List ao) (a b : Int) (u : Int) : Bool:=decide (u < a) || (decide (b < u) || !decide (eW t u))
theorem AZ (t : List ao) (ht : t.length≤2 ^ 61) (a b u : Int) (s : AS) : ah prog Γ 178 [.v (.int .i64 u),.dq [.v (.int .i64 a)],.dq [.v (.int .i64 b)],.dq [bA t]] s (fun r s'=>r = .v (.bool (lL t a b u))∧s' = s):=by
 refine ab func178 rfl ntmps178 results178 (by simp) ?_;have hm:=fun i s=>kT (Γ:=Γ) t ht i s;unfold bA at hm ⊢;generalize aK ao.cells t = X at *
 unfold lL;refine jA ?_;by_cases h1 : u < a
 ·have hr : (decide (u < a) || (decide (b < u) || !decide (eW t u))) = true:=(by rw [decide_eq_true h1]; rfl);refine jB (decide_eq_true h1) ?_;refine jI ?_;rw [hr];exact jW ⟨rfl,rfl⟩
 ·by_cases h2 : b < u
  ·have hr : (decide (u < a) || (decide (b < u) || !decide (eW t u))) = true:=(by rw [decide_eq_true h2,decide_eq_false h1]; rfl);refine jB (Ai (decide_eq_false h1) (decide_eq_true h2)) ?_;refine jI ?_;rw [hr];exact jW ⟨rfl,rfl⟩
  ·have hr : (decide (u < a) || (decide (b < u) || !decide (eW t u))) = !decide (eW t u):=(by rw [decide_eq_false h2,decide_eq_false h1]; rfl);refine jS (Ai (decide_eq_false h1) (decide_eq_false h2)) fun K hK=>?_;refine ad (hm _ _) ?_;rintro r s1 ⟨rfl,rfl⟩;refine jR hK ?_;clear hK K;refine jI ?_;rw [hr];exact jW ⟨rfl,rfl⟩
theorem DA (hG : Γ 3 = fM.map pg) (t : List ao) (ht : gG t) (i : Nat) (hi : i < t.length) (s : AS) : ah prog Γ 141 [bA t,.v (.int .i64 i)] s (fun r s'=>r = .v (.bool (decide (rk t i)))∧s' = s):=by
 refine ab func141 rfl ntmps141 results141 (by simp) ?_;have hun:=fun s=>ri (Γ:=Γ) hG (i : Int) s;obtain ⟨a,ha⟩ : ∃ a,a = (wY (i : Int)).1:=⟨_,rfl⟩;obtain ⟨b,hb⟩ : ∃ b,b = (wY (i : Int)).2:=⟨_,rfl⟩;rw [← ha,← hb] at hun;have hfo:=fun u s=>AZ (Γ:=Γ) t ht.1 a b u s;have dI:=fY hi;have hN:=ht.nd i;have dS : rk t i↔(nd t i).right∧((nd t i).kind = 0∨((nd t i).kind = 1↔i % 2 = 0))∧((nd t i).kY.any (lL t a b)) = false:=by
  unfold rk;rw [← ha,← hb];simp only [List.any_eq_false,lL,Bool.or_eq_true,decide_eq_true_eq,Bool.not_eq_true',decide_eq_false_iff_not,not_or,Int.not_lt,Decidable.not_not]
 have R9:=fun s=>kD (Γ:=Γ) (nd t i) hN.1 s;have Vz:=fun s=>r4 (Γ:=Γ) (nd t i).kY hN.1 _ FD [.dq [.v (.int .i64 a)],.dq [.v (.int .i64 b)],.dq [bA t]] (lL t a b) (fun x _ s=>hfo x s) s;have HP : decide (rk t i) = (decide (nd t i).right && (((nd t i).kind == 0 || (((nd t i).kind == 1) == (i % 2 == 0))) && !((nd t i).kY.any (lL t a b)))):=by
  rw [Bool.eq_iff_iff,decide_eq_true_iff,dS];simp only [Bool.and_eq_true,decide_eq_true_eq,Bool.or_eq_true,beq_iff_eq,Bool.not_eq_true',Bool.beq_eq_decide_eq];constructor
  ·rintro ⟨x,y,z⟩;exact ⟨x,y.imp id (fun q=>by rw [Bool.eq_iff_iff,decide_eq_true_iff,decide_eq_true_iff]; exact q),z⟩
  ·rintro ⟨x,y,z⟩;exact ⟨x,y.imp id (fun q=>by rw [Bool.eq_iff_iff,decide_eq_true_iff,decide_eq_true_iff] at q; exact q),z⟩
 clear dS;generalize List.any (nd t i).kY (lL t a b) = F at *
 unfold bA at Vz ⊢;generalize aK ao.cells t = X at *
 clear hfo;generalize decide (rk t i) = RES at *
 generalize decide (nd t i).right = RT at *
 generalize nd t i = N at *
 obtain ⟨nk,nm,ny,zh,nu⟩:=N;unfold ao.cells at dI R9;simp only at HP Vz;unfold aR at Vz dI R9;have dr : (0 : Int)≤(i : Int):=(by omega);have bc : i < t.length:=hi;refine aU 2 (by decide) ?_;intro K hK;refine jM ?_;intro o1 h1;refine hK _ _ o1 _ rfl h1 ?_;clear hK K h1;refine aU 5 (by decide) ?_;intro K hK;refine jN (Ai @ax (Ai @bc (Ai @dr @dI))) ?_;intro o1 h1;refine hK _ _ o1 _ rfl h1 ?_;clear hK K h1;refine fX 6 7 (by decide) (by decide) (by decide) ?_;intro K hK;refine jM ?_;refine ad (hun _) ?_;rintro r s1 ⟨rfl,rfl⟩;refine jM ?_;intro o1 vK o2 iR;have dp : o1≠o2:=(by rintro rfl; simp at iR);have oQ:=dp.symm;simp only [dp,oQ,if_true,if_false,↓reduceIte,List.set_cons_zero,List.set_cons_succ,List.length_cons,List.length_nil,Nat.reduceAdd,Nat.le_refl,true_and];rw [EY dp];refine hK _ _ o1 o2 _ _ rfl rfl vK (by rw [AS.ae _ oQ]; simpa [oQ] using iR) ?_;clear hK K vK iR dp oQ;refine jA ?_;have tj : mV (i : Int) 2 = ((i % 2 : Nat) : Int):=nO i 2;have bb : ((true == true) = true∧(false == false) = true)∧((true == false) = false∧(false == true) = false):=⟨⟨rfl,rfl⟩,rfl,rfl⟩;cases RT with
 | false =>
  refine jK (R9 _) ?_;rintro s2 rfl;refine jI ?_;rw [HP];exact jW ⟨rfl,rfl⟩
 | true =>
  by_cases k0 : nk = 0
  ·have t0:=wZ k0;refine jQ fun K hK=>?_;refine ad (R9 _) ?_;rintro r s2 ⟨rfl,rfl⟩;simp only [↓DM,bL,DX,Nz,↓DN,Qa,Qb,Qc,Qd,Qe,Qf,Qg,Qh,reduceCtorEq,↓reduceIte,Na,Nb,Nc,Nk,Nf,Ng,Nh,Za,Zb,Zc,TT,t0];refine ad (Vz _) ?_;rintro r s3 ⟨rfl,rfl⟩;refine jR hK ?_;clear hK K;refine jI ?_;have OX : (true && ((nk == 0 || ((nk == 1) == (i % 2 == 0))) && !F)) = !F:=(by rw [t0]; cases F <;> rfl);rw [HP,OX];exact jW ⟨rfl,rfl⟩
  ·have t0:=uV k0;by_cases k1 : nk = 1
   ·have t1:=wZ k1;by_cases kp : i % 2 = 0
    ·have t2 : (mV (i : Int) 2 == 0) = true:=(by rw [tj]; exact wZ (by omega));have t3 : (i % 2 == 0) = true:=(by simpa using kp);have OX : (true && ((nk == 0 || ((nk == 1) == (i % 2 == 0))) && !F)) = !F:=(by rw [t0,t1,t3]; cases F <;> rfl);refine jQ fun K hK=>?_;refine ad (R9 _) ?_;rintro r s2 ⟨rfl,rfl⟩;simp only [↓DM,bL,DX,Nz,↓DN,Qa,Qb,Qc,Qd,Qe,Qf,Qg,Qh,reduceCtorEq,↓reduceIte,Na,Nb,Nc,Nk,Nf,Ng,Nh,Za,Zb,Zc,TT,t0,t1,tD,t2,bb];refine ad (Vz _) ?_;rintro r s3 ⟨rfl,rfl⟩;refine jR hK ?_;clear hK K;refine jI ?_;rw [HP,OX];exact jW ⟨rfl,rfl⟩
    ·have t2 : (mV (i : Int) 2 == 0) = false:=(by rw [tj]; exact uV (by omega));have t3 : (i % 2 == 0) = false:=(by simpa using kp);have OX : (true && ((nk == 0 || ((nk == 1) == (i % 2 == 0))) && !F)) = false:=(by rw [t0,t1,t3]; cases F <;> rfl);refine jQ fun K hK=>?_;refine ad (R9 _) ?_;rintro r s2 ⟨rfl,rfl⟩;simp only [↓DM,bL,DX,Nz,↓DN,Qa,Qb,Qc,Qd,Qe,Qf,Qg,Qh,reduceCtorEq,↓reduceIte,Na,Nb,Nc,Nk,Nf,Ng,Nh,Za,Zb,Zc,TT,t0,t1,tD,t2,bb];refine hK _ _ ?_;clear hK K;refine jI ?_;rw [HP,OX];exact jW ⟨rfl,rfl⟩
   ·have t1:=uV k1;by_cases kp : i % 2 = 0
    ·have t2 : (mV (i : Int) 2 == 0) = true:=(by rw [tj]; exact wZ (by omega));have t3 : (i % 2 == 0) = true:=(by simpa using kp);have OX : (true && ((nk == 0 || ((nk == 1) == (i % 2 == 0))) && !F)) = false:=(by rw [t0,t1,t3]; cases F <;> rfl);refine jQ fun K hK=>?_;refine ad (R9 _) ?_;rintro r s2 ⟨rfl,rfl⟩;simp only [↓DM,bL,DX,Nz,↓DN,Qa,Qb,Qc,Qd,Qe,Qf,Qg,Qh,reduceCtorEq,↓reduceIte,Na,Nb,Nc,Nk,Nf,Ng,Nh,Za,Zb,Zc,TT,t0,t1,tD,t2,bb];refine hK _ _ ?_;clear hK K;refine jI ?_;rw [HP,OX];exact jW ⟨rfl,rfl⟩
    ·have t2 : (mV (i : Int) 2 == 0) = false:=(by rw [tj]; exact uV (by omega));have t3 : (i % 2 == 0) = false:=(by simpa using kp);have OX : (true && ((nk == 0 || ((nk == 1) == (i % 2 == 0))) && !F)) = !F:=(by rw [t0,t1,t3]; cases F <;> rfl);refine jQ fun K hK=>?_;refine ad (R9 _) ?_;rintro r s2 ⟨rfl,rfl⟩;simp only [↓DM,bL,DX,Nz,↓DN,Qa,Qb,Qc,Qd,Qe,Qf,Qg,Qh,reduceCtorEq,↓reduceIte,Na,Nb,Nc,Nk,Nf,Ng,Nh,Za,Zb,Zc,TT,t0,t1,tD,t2,bb];refine ad (Vz _) ?_;rintro r s3 ⟨rfl,rfl⟩;refine jR hK ?_;clear hK K;refine jI ?_;rw [HP,OX];exact jW ⟨rfl,rfl⟩
theorem zi {t : List ao} {name : List UInt8} {a : Nat} : decide (0≤nZ t name (a + 1)) = false↔∀ j,j < pV t→a < j→¬ (eW t (j : Int)∧(nd t (2 * j)).name = name):=by
 have h:=uW (fun (j : Nat)=>decide (eW t (j : Int)∧(nd t (2 * j)).name = name)) (pV t - (a + 1)) (a + 1);constructor
 ·intro h1 j h2 h3 h4;have : decide (0≤nZ t name (a + 1)) = true:=h.2 ⟨j,by omega,by omega,decide_eq_true h4⟩;rw [h1] at this;cases this
 ·intro h1;cases hd : decide (0≤nZ t name (a + 1)) with
  | false=>rfl
  | true =>
   obtain ⟨j,h2,h3,h4⟩:=h.1 hd;exact absurd (of_decide_eq_true h4) (h1 j (by omega) (by omega))
theorem jy (hG : Γ 3 = fM.map pg) (t : List ao) (ht : gG t) (s : AS) : ah prog Γ 101 [bA t] s (fun r s'=>r = .v (.bool (decide (bO t)))∧s' = s):=by
 refine ab func101 rfl ntmps101 results101 (by simp) ?_;have lT:=ht.1;have B8:=fun s=>oi (Γ:=Γ) t lT s;have hmc:=fun i s=>kT (Γ:=Γ) t lT i s;have SU:=fun i (h : i < t.length) s=>DA (Γ:=Γ) hG t ht i h s;have Em:=fun name a (h : a≤2 ^ 60) s=>AW (Γ:=Γ) t lT name a h s;have P9:=fun a k h s=>AU (Γ:=Γ) t lT a k h s;have dI:=fun i (h : i < t.length)=>fY (t:=t) h;have hlv:=Ms t;have ZO : bj t≠0→t.length = 2 * bj t - 1:=fun h=>(dn.resolve_left h).2;have ZP : bj t = 0→decide (bO t) = false:=fun h=>decide_eq_false fun k=>k.1 h;have ZQ : ∀ i,i < t.length→¬ gW t i→decide (bO t) = false:=fun i h1 h2=>decide_eq_false fun k=>h2 (k.2.1 i h1);have yI : bj t≠0→(∀ i,i < t.length→gW t i)→decide (bO t) = (((bj t : Int) == 1) || decide ((0 : Int) < (rU (eW t) (bj t / 2) (bj t - bj t / 2) : Int))):=by
  intro h1 h2;rw [Bool.eq_iff_iff,decide_eq_true_iff,Bool.or_eq_true,beq_iff_eq,decide_eq_true_iff];constructor
  ·rintro ⟨_,_,h3⟩;exact h3.imp (fun q=>by omega) (fun q=>by omega)
  ·intro h3;exact ⟨h1,h2,h3.imp (fun q=>by omega) (fun q=>by omega)⟩
 unfold bA at *
 generalize aK ao.cells t = X at *
 generalize decide (bO t) = RES at *
 refine jA ?_;refine jK (B8 _) ?_;rintro s1 rfl;refine wK fun K hK=>?_;refine jA ?_;refine al ?_;refine aE (fun E s2=>∃ i : Nat,i≤t.length∧(0 < i→bj t≠0)∧(∀ j,j < i→gW t j)∧E 9 = .v (.int .i64 i)∧E 8 = .v (.int .i64 t.length)∧E 3 = .v (.int .i64 (bj t))∧E 0 = .sl 5 t.length X .any∧s2 = s1)
  (fun E _=>match E 9 with | .v (.int _ i)=>t.length - i.toNat | _=>0) ?_ ?_
 ·exact ⟨0,Nat.zero_le _,fun h=>absurd h (Nat.lt_irrefl _),fun j h=>absurd h (Nat.not_lt_zero _),rfl,rfl,rfl,rfl,rfl⟩
 ·rintro E1 s2 ⟨i,hi,hn0,cu,g9,g8,g3,g0,rfl⟩ -
  by_cases bc : i < t.length
  ·refine jB (Ai @g9 (Ai @g8 (Ai @ax (decide_eq_true bc)))) ?_;refine wK fun K2 aW=>?_;refine jE ?_;refine ag ?_;refine aW _ _ ?_;clear aW K2;refine wK fun K3 bC=>?_;refine al ?_;refine jB @g9 ?_;by_cases hz : bj t = 0
   ·refine jB (Ai @g3 (Zl hz)) ?_;refine jE ?_;refine jA ?_;refine jI ?_;rw [ZP hz];exact jW ⟨rfl,rfl⟩
   ·have lM : gW t i↔rk t i∧(i % 2 = 0→eW t ((i / 2 : Nat) : Int)→decide (0≤nZ t (nd t i).name (i / 2 + 1)) = false):=by
     unfold gW;rw [zi]
    have hlen:=ZO hz;have zg:=dI i bc;have hni:=fun s=>Em (nd t i).name (i / 2 + 1) (by omega) s;generalize hNI : nZ t (nd t i).name (i / 2 + 1) = NI at *
    generalize nd t i = N at *
    obtain ⟨nk,nm,ny,zh,nu⟩:=N;unfold ao.cells at zg;simp only at hni;have dr : (0 : Int)≤(i : Int):=(by omega);have tj : mV (i : Int) 2 = ((i % 2 : Nat) : Int):=nO i 2;have Sa : nC .i64 (i : Int) 2 = ((i / 2 : Nat) : Int):=nh i (by omega);have hq3 : eu .i64 ((i / 2 : Nat) : Int) 1 = ((i / 2 + 1 : Nat) : Int):=bt _ (by omega);have cW : gW t i→∀ (E : Env),E 9 = .v (.int .i64 i)→E 8 = .v (.int .i64 t.length)→E 3 = .v (.int .i64 (bj t))→E 0 = .sl 5 t.length X .any→K3 E s2:=by
     intro hg E f9 f8 f3 f0;refine bC _ _ ?_;clear bC K3;refine jD (Ai @f9 (bt i (by omega))) ?_;refine ⟨⟨i + 1,by omega,fun _=>hz,?_,rfl,f8,f3,f0,rfl⟩,?_⟩
     ·intro j hj;by_cases e : j = i
      ·rw [e]; exact hg
      ·exact cu j (by omega)
     ·simp only [g9,aF,↓reduceIte];omega
    clear bC;refine jS (Ai @g3 (Ai (RW hz) @g0)) fun K hK=>?_;refine ad (SU i bc _) ?_;rintro r s3 ⟨rfl,rfl⟩;by_cases hf : rk t i
    ·rw [decide_eq_true hf];by_cases hp : i % 2 = 0
     ·have t2 : (mV (i : Int) 2 == 0) = true:=(by rw [tj]; exact wZ (by omega));simp only [↓DM,bL,DX,Nz,↓DN,Qa,Qb,Qc,Qd,Qe,Qf,Qg,Qh,reduceCtorEq,↓reduceIte,Na,Nb,Nc,Nk,Nf,Ng,Nh,Za,Zb,Zc,TT,tD,t2,g0,Sa];refine ad (hmc _ _) ?_;rintro r s4 ⟨rfl,rfl⟩;by_cases hm : eW t ((i / 2 : Nat) : Int)
      ·rw [decide_eq_true hm];refine jN (Ai @tD (Ai @g0 (Ai @ax (Ai @bc (Ai @dr (Ai @zg (Ai @Sa @hq3))))))) ?_;refine ad (hni _) ?_;rintro r s5 ⟨rfl,rfl⟩;by_cases hn : 0≤NI
       ·have kN : ¬ gW t i:=fun k=>by
         have:=(lM.1 k).2 hp hm;exact absurd hn (of_decide_eq_false this)
        refine jV (decide_eq_true hn) hK ?_;clear hK K;refine jE ?_;refine jA ?_;refine jI ?_;rw [ZQ i bc kN];exact jW ⟨rfl,rfl⟩
       ·have hg : gW t i:=lM.2 ⟨hf,fun _ _=>decide_eq_false hn⟩;refine jV (decide_eq_false hn) hK ?_;clear hK K;refine jF ?_;refine ag ?_;simp only [aw,az,if_true,if_false];exact cW hg _ g9 g8 g3 g0
      ·have hg : gW t i:=lM.2 ⟨hf,fun _ k=>absurd k hm⟩;rw [decide_eq_false hm];refine jR hK ?_;clear hK K;refine jF ?_;refine ag ?_;simp only [aw,az,if_true,if_false];exact cW hg _ g9 g8 g3 g0
     ·have t2 : (mV (i : Int) 2 == 0) = false:=(by rw [tj]; exact uV (by omega));have hg : gW t i:=lM.2 ⟨hf,fun k=>absurd k hp⟩;simp only [↓DM,bL,DX,Nz,↓DN,Qa,Qb,Qc,Qd,Qe,Qf,Qg,Qh,reduceCtorEq,↓reduceIte,Na,Nb,Nc,Nk,Nf,Ng,Nh,Za,Zb,Zc,TT,tD,t2];refine hK _ _ ?_;clear hK K;refine jF ?_;refine ag ?_;simp only [aw,az,if_true,if_false];exact cW hg _ g9 g8 g3 g0
    ·have kN : ¬ gW t i:=fun k=>hf k.1;rw [decide_eq_false hf];refine jR hK ?_;clear hK K;refine jE ?_;refine jA ?_;refine jI ?_;rw [ZQ i bc kN];exact jW ⟨rfl,rfl⟩
  ·refine jB (Ai @g9 (Ai @g8 (Ai @ax (decide_eq_false bc)))) ?_;refine wK fun K2 aW=>?_;refine jF ?_;refine aC ?_;simp only [az,aw,if_true];refine hK _ _ ?_;clear hK aW K2 K;have ZR : ∀ j,j < t.length→gW t j:=fun j h=>cu j (by omega);by_cases hz : bj t = 0
   ·have hp : decide ((0 : Int) < ((bj t : Nat) : Int)) = false:=decide_eq_false (by omega);refine jB (Ai @g3 (Ai (uV (show ¬ ((bj t : Nat) : Int) = 1 by omega)) @hp)) ?_;refine jI ?_;rw [ZP hz];exact jW ⟨rfl,rfl⟩
   ·have hp : decide ((0 : Int) < ((bj t : Nat) : Int)) = true:=decide_eq_true (by omega);have kE:=yI hz ZR;by_cases h1 : bj t = 1
    ·have e1:=wZ (show ((bj t : Nat) : Int) = 1 by omega);rw [e1] at kE;refine jB (Ai @g3 @e1) ?_;refine jI ?_;rw [kE];exact jW ⟨rfl,rfl⟩
    ·have e1:=uV (show ¬ ((bj t : Nat) : Int) = 1 by omega);rw [e1,Bool.false_or] at kE;have e2 : nC .i64 (bj t : Int) 2 = ((bj t / 2 : Nat) : Int):=nh _ (by omega);have e3 : eC .i64 (bj t : Int) 1 = (((bj t / 2 + (bj t - bj t / 2) : Nat)) : Int) - 1:=(by rw [dM (by omega)]; omega);have hcm:=fun s=>P9 (bj t / 2) (bj t - bj t / 2) (by omega) s;generalize (((bj t / 2 + (bj t - bj t / 2) : Nat)) : Int) - 1 = LL at *
     refine jS (Ai @g3 (Ai @e1 (Ai @hp (Ai @tD (Ai @e2 (Ai @e3 @g0)))))) fun K hK=>?_;refine ad (hcm _) ?_;rintro r s3 ⟨rfl,rfl⟩;refine jR hK ?_;clear hK K;refine jI ?_;rw [kE];exact jW ⟨rfl,rfl⟩
theorem zj (s : AS) : ah prog Γ 51 [bZ] s (fun r s'=>r = aj [] .any∧s' = s):=by
 refine ab func51 rfl ntmps51 results51 (by simp) ?_;unfold bZ;refine jA ?_;refine wK fun K hK=>?_;refine jA ?_;refine jE ?_;refine jA ?_;refine jI ?_;exact ⟨_,_,AV.aJ,AS.le.refl _,rfl,rfl⟩
theorem A0 (l : List UInt8) (s : AS) (hl : l.length≤2 ^ 45) : ah prog Γ 51 [aj l .no] s (fun r s'=>r = aj l .any∧s' = s):=by
 refine ab func51 rfl ntmps51 results51 (by simp) ?_;unfold aj;refine jA ?_;refine wK fun K hK=>?_;refine jB @and_false ?_;refine jF ?_;refine ag ?_;refine hK _ _ ?_;clear hK K;by_cases h0 : l.length = 0
 ·have ur : l = []:=List.eq_nil_of_length_eq_zero h0;subst ur;refine jA ?_;refine jI ?_;exact ⟨_,s,AV.bJ,AS.le.refl s,rfl,rfl⟩
 ·refine jS @h0 fun K hK=>?_;refine ⟨by omega,by omega,fun t ht=>hK _ _ ?_⟩;clear hK K;refine jI ?_;exact ⟨_,s,AV.bJ,AS.bG (AS.le.refl s) ht 0,rfl,rfl⟩
theorem ga (l : List UInt8) (s : AS) (hl : l.length≤2 ^ 45) : ah prog Γ 51 [aj l .any] s (fun r s'=>r = aj l .any∧s' = s) :=
 ah.any (pre:=[]) (post:=[]) (fun e=>by subst e; exact zj s) (A0 l s hl)
theorem iD (hG : Γ 3 = fM.map pg) (t : List ao) (ht : gG t) (s : AS) : ah prog Γ 45 [bA t] s (fun r s'=>r = .v (.int .i64 (if bO t then bj t else 0 : Nat))∧s' = s):=by
 refine ab func45 rfl ntmps45 results45 (by simp) ?_;have hr:=fun s=>jy (Γ:=Γ) hG t ht s;have hl:=fun s=>oi (Γ:=Γ) t ht.1 s;unfold bA at *
 generalize aK ao.cells t = X at *
 refine jA ?_;refine wK fun K hK=>?_;refine jQ fun K hK=>?_;refine ad (hr _) ?_;rintro r s1 ⟨rfl,rfl⟩;by_cases h : bO t
 ·rw [decide_eq_true h];refine jR hK ?_;clear hK K;refine jF ?_;refine ag ?_;refine hK _ _ ?_;clear hK K;refine jK (hl _) ?_;rintro s2 rfl;refine jI ?_;rw [if_pos h];exact jW ⟨rfl,rfl⟩
 ·rw [decide_eq_false h];refine jR hK ?_;clear hK K;refine jE ?_;refine jA ?_;refine jI ?_;rw [if_neg h];exact jW ⟨rfl,rfl⟩
def mT (x i : Int) : Bool:=decide ((wY x).1≤i∧i≤(wY x).2)
theorem ru (hG : Γ 3 = fM.map pg) (x i : Int) (s : AS) : ah prog Γ 73 [.v (.int .i64 x),.v (.int .i64 i)] s (fun r s'=>r = .v (.bool (mT x i))∧s' = s):=by
 refine ab func73 rfl ntmps73 results73 (by simp) ?_;have hu:=fun s=>ri (Γ:=Γ) hG x s;unfold mT;generalize wY x = U at *
 refine jA ?_;refine jK (hu _) ?_;rintro s1 rfl;by_cases h : U.1≤i
 ·refine jB (decide_eq_true h) ?_;refine jI ?_;exact jW ⟨by simp [h],rfl⟩
 ·refine jB (decide_eq_false h) ?_;refine jI ?_;exact jW ⟨by simp [h],rfl⟩
theorem lN (t : List ao) (ht : t.length≤2 ^ 61) (i : Int) (s : AS) : ah prog Γ 70 [bA t,.v (.int .i64 i)] s (fun r s'=>r = .v (.bool (decide (l7 t i)))∧s' = s):=by
 refine ab func70 rfl ntmps70 results70 (by simp) ?_;unfold bA;have e0 : nC .i64 (t.length : Int) 2 = ((t.length / 2 : Nat) : Int):=nh _ (by omega);refine jA ?_;by_cases h0 : 0≤i
 ·obtain ⟨n,rfl⟩:=Int.eq_ofNat_of_zero_le h0;by_cases h1 : n≤t.length / 2
  ·by_cases h2 : 2 * n < t.length
   ·have dI:=fY h2;have hk : decide (l7 t (n : Int)) = ((nd t (2 * n)).kind == 1):=by
     rw [Bool.eq_iff_iff,decide_eq_true_iff,beq_iff_eq];unfold l7;rw [Int.toNat_natCast];exact ⟨fun k=>k.2.2,fun k=>⟨h0,by omega,k⟩⟩
    generalize nd t (2 * n) = N at *
    generalize aK ao.cells t = X at *
    obtain ⟨k,nm,y,pa,u⟩:=N;unfold ao.cells at dI;have dr : (0 : Int)≤((2 * n : Nat) : Int):=(by omega);refine jB (Ai @tD (Ai (decide_eq_true h0) (Ai @e0 (Ai (decide_eq_true (show ((n : Nat) : Int)≤((t.length / 2 : Nat) : Int) by omega)) (Ai (eG n (by omega)) (Ai @ax (Ai @h2 (Ai @dr (Ai @dI (decide_eq_true h2)))))))))) ?_;refine jI ?_;rw [hk];exact jW ⟨rfl,rfl⟩
   ·have hk : decide (l7 t (n : Int)) = false:=decide_eq_false fun k=>h2 (by have:=k.2.1; omega);refine jB (Ai @tD (Ai (decide_eq_true h0) (Ai @e0 (Ai (decide_eq_true (show ((n : Nat) : Int)≤((t.length / 2 : Nat) : Int) by omega)) (Ai (eG n (by omega)) (Ai @ax (decide_eq_false h2))))))) ?_;refine jI ?_;rw [hk];exact jW ⟨rfl,rfl⟩
  ·have hk : decide (l7 t (n : Int)) = false:=decide_eq_false fun k=>h1 (by have:=k.2.1; omega);refine jB (Ai @tD (Ai (decide_eq_true h0) (Ai @e0 (decide_eq_false (show ¬ ((n : Nat) : Int)≤((t.length / 2 : Nat) : Int) by omega))))) ?_;refine jI ?_;rw [hk];exact jW ⟨rfl,rfl⟩
 ·have hk : decide (l7 t i) = false:=decide_eq_false fun k=>h0 k.1;refine jB (Ai @tD (decide_eq_false h0)) ?_;refine jI ?_;rw [hk];exact jW ⟨rfl,rfl⟩
def oV (t : List ao) (i : Int) : Int:=if bO t then (if l7 t i then 0 else 43) else 40
theorem wj (hG : Γ 3 = fM.map pg) (t : List ao) (ht : gG t) (i : Int) (s : AS) : ah prog Γ 40 [bA t,.v (.int .i64 i)] s (fun r s'=>r = .v (.int .i64 (oV t i))∧s' = s):=by
 refine ab func40 rfl ntmps40 results40 (by simp) ?_;have hr:=fun s=>jy (Γ:=Γ) hG t ht s;have hm:=fun s=>lN (Γ:=Γ) t ht.1 i s;unfold bA at *
 obtain ⟨V,hV⟩ : ∃ V,V = oV t i:=⟨_,rfl⟩;rw [← hV];unfold oV at hV;generalize aK ao.cells t = X at *
 refine jA ?_;refine wK fun K hK=>?_;refine al ?_;refine jQ fun K hK=>?_;refine ad (hr _) ?_;rintro r s1 ⟨rfl,rfl⟩;by_cases h : bO t
 ·rw [if_pos h] at hV;rw [decide_eq_true h];refine jR hK ?_;clear hK K;refine jF ?_;refine jQ fun K hK=>?_;refine ad (hm _) ?_;rintro r s2 ⟨rfl,rfl⟩;by_cases h2 : l7 t i
  ·rw [if_pos h2] at hV;rw [decide_eq_true h2];refine jR hK ?_;clear hK K;refine jF ?_;refine ag ?_;simp only [az,aw];refine hK _ _ ?_;clear hK K;refine jA ?_;refine jI ?_;exact jW ⟨by rw [hV],rfl⟩
  ·rw [if_neg h2] at hV;rw [decide_eq_false h2];refine jR hK ?_;clear hK K;refine jE ?_;refine jA ?_;refine jI ?_;exact jW ⟨by rw [hV],rfl⟩
 ·rw [if_neg h] at hV;rw [decide_eq_false h];refine jR hK ?_;clear hK K;refine jE ?_;refine jA ?_;refine jI ?_;exact jW ⟨by rw [hV],rfl⟩
theorem iE (hG : Γ 3 = fM.map pg) (leaf l : Nat) (hl : Fit l) (hn : leaf < l) (s : AS) : ah prog Γ 46 [.v (.int .i64 leaf),.v (.int .i64 l)] s
  (fun r s'=>r = aR (bw (cR leaf l)) .any∧s' = s):=by
 refine ab func46 rfl ntmps46 results46 (by simp) ?_;have PT:=hl.le;have GF:=ni hl hn;have rm:=fun s=>kM (Γ:=Γ) hG leaf l hl hn s;have GM:=fun (i : Nat) (h : i < (aH leaf l).length) (s : AS)=>y9 (Γ:=Γ) hG (nodeAt leaf l i) l hl (y4 hl hn h).1 (y4 hl hn h).2.1 s;have Sb : (bw (cR leaf l)).length = (aH leaf l).length:=(by simp [cJ,cR]);have TQ : ∀ i,i < (aH leaf l).length→(bw (cR leaf l)).take (i + 1) = (bw (cR leaf l)).take i ++ [((cC (nodeAt leaf l i) : Nat) : Int)]:=by
  intro i hi;rw [List.take_succ_eq_append_getElem (by rw [Sb]; exact hi)];simp [bw,cR]
 have Vs : (bw (aH leaf l)).length = (aH leaf l).length:=cJ _;have hPg : ∀ i,i < (aH leaf l).length→(bw (aH leaf l))[i]? = some ((nodeAt leaf l (i + 1) : Nat) : Int):=by
  intro i hi;simp [bw,nodeAt,List.getD,hi]
 have TE : nodeAt leaf l 0 = 2 * leaf:=rfl;generalize bw (cR leaf l) = S at *
 generalize bw (aH leaf l) = W at *
 generalize nodeAt leaf l = D at *
 generalize (aH leaf l).length = k at *
 refine jA ?_;refine jA ?_;refine jB (eG leaf (by omega)) ?_;refine wK fun K hK=>?_;refine jQ fun K hK=>?_;refine ad (rm _) ?_;rintro r s1 ⟨rfl,rfl⟩;refine jV @aR.eq_1 hK ?_;clear hK K;refine al ?_;refine aE (fun E s2=>∃ (i : Nat) (x : AV),i≤k∧E 15 = .sl 1 W.length (W.map aV) .any∧E 16 = .v (.int .i64 W.length)∧E 17 = .v (.int .i64 i)∧E 1 = .v (.int .i64 l)∧E 6 = .v (.int .i64 (D i : Nat))∧E 5 = x∧cO 1 s1 s2 x i ((S.take i).map aV)∧s1.le s2)
  (fun E _=>k + 1 - BS (E 5)) ?_ ?_
 ·refine ⟨0,bZ,Nat.zero_le _,rfl,rfl,rfl,rfl,?_,rfl,cO.nil _ _ _,AS.le.refl _⟩;rw [TE];simp only [aF,Nc,↓reduceIte]
 ·rintro E1 s2 ⟨i,x,hi,g15,g16,g17,g1,g6,g5,hx,hle⟩ -
  by_cases bc : i < k
  ·have bS : ((i : Nat) : Int) < (W.length : Int):=(by omega);have h0 : (0 : Int)≤((i : Nat) : Int):=(by omega);have gn : (List.take 1 (List.drop i (W.map aV)))[0]? = some (AV.v (.int .i64 ((D (i + 1) : Nat) : Int))):=by
    simp [List.getElem?_take,hPg i bc,aV]
   refine jB (Ai @g16 (Ai @g17 (decide_eq_true bS))) ?_;refine wK fun K2 aW=>?_;refine jE ?_;refine ag ?_;refine aW _ _ ?_;clear aW K2;refine wK fun K3 bC=>?_;refine al ?_;refine jB (Ai @g15 (Ai @g17 (Ai @bS (Ai @h0 @gn)))) ?_;refine jS (Ai @g6 @g1) fun K hK=>?_;refine ad (GM i bc _) ?_;rintro r s3 ⟨rfl,rfl⟩;refine jR hK ?_;clear hK K;have ft:=TQ i bc;refine wK fun K4 ei=>?_;have cW : ∀ (E : Env) (s3 : AS) (x3 : AV),E 15 = .sl 1 W.length (W.map aV) .any→E 16 = .v (.int .i64 W.length)→E 17 = .v (.int .i64 i)→E 1 = .v (.int .i64 l)→E 8 = .v (.int .i64 (D (i + 1) : Nat))→E 5 = x3→cO 1 s1 s3 x3 (i + 1) ((S.take (i + 1)).map aV)→s1.le s3→K4 E s3:=by
    intro E s3 x3 f15 f16 f17 f1 f8 f5 fx PU;refine ei _ _ ?_;clear ei K4;refine jD @f8 ?_;refine bC _ _ ?_;clear bC K3;refine jD (Ai @f17 (bt i (by omega))) ?_;refine ⟨⟨i + 1,x3,bc,f15,f16,rfl,f1,rfl,f5,fx,PU⟩,?_⟩;have m1 : BS (E1 5) = i:=by
     rw [g5];rcases hx with ⟨rfl,rfl,_⟩ | ⟨t,e,rfl,_⟩ <;> rfl
    have m2 : BS (E 5) = i + 1:=by
     rw [f5];rcases fx with ⟨rfl,h,_⟩ | ⟨t,e,rfl,_⟩
     ·omega
     ·rfl
    simp only [aF,Nc,↓reduceIte,m1,m2];omega
   clear ei;rcases hx with ⟨rfl,ic,BT⟩ | ⟨t,e,rfl,ht,gM⟩
   ·refine wE fun K hK=>?_;simp only [↓DN,Qa,Qb,Qc,Qd,Qe,Qf,Qg,Qh,reduceCtorEq,↓reduceIte,Na,Nb,Nc,Nk,Nf,Ng,Nh,Za,Zb,Zc,TT,g5,bZ,List.replicate_succ];intro t ht;refine hK _ _ (cW _ _ (.sl 1 1 [.v (.int .i64 ((cC (D i) : Nat) : Int))] (.own t 0)) g15 g16 g17 g1 rfl rfl ?_ ?_)
    ·refine .inr ⟨t,0,?_,by simp [AS.bo],bN hle ht⟩;rw [ft,List.map_append,BT];subst ic;rfl
    ·exact AS.bG hle (bN hle ht) 0
   ·refine wE fun K hK=>?_;simp only [↓DN,Qa,Qb,Qc,Qd,Qe,Qf,Qg,Qh,reduceCtorEq,↓reduceIte,Na,Nb,Nc,Nk,Nf,Ng,Nh,Za,Zb,Zc,TT,g5,ht,List.replicate_succ];have TF : (S.take i).length = i:=(by rw [List.length_take]; omega);refine ⟨by omega,by omega,hK _ _ (cW _ _ (.sl 1 (i + 1) ((S.take i).map aV ++ [.v (.int .i64 ((cC (D i) : Nat) : Int))]) (.own t (e + 1))) g15 g16 g17 g1 rfl rfl ?_ ?_)⟩
    ·exact .inr ⟨t,e + 1,by rw [ft,List.map_append]; rfl,by simp [AS.bo],gM⟩
    ·exact AS.bG hle gM (e + 1)
  ·have bS : ¬ ((i : Nat) : Int) < (W.length : Int):=(by omega);refine jB (Ai @g16 (Ai @g17 (decide_eq_false bS))) ?_;refine wK fun K2 aW=>?_;refine jF ?_;refine aC ?_;simp only [az,aw,if_true];refine hK _ _ ?_;clear hK aW K2 K;obtain rfl : i = k:=(by omega);refine jB @g5 ?_;refine jI ?_;rw [List.take_of_length_le (by omega)] at hx;refine ⟨_,_,?_,hle,rfl,rfl⟩;have:=hx.aA;unfold aR;rwa [Sb]
end Go.Proofs.YtbiefppedlodiaaGreatDoor
namespace Go.AM
open Go
def Ku (l : List ao) : List UInt8:=(l.map ao.text).flatten
def MY (t : List ao) : List UInt8:=be 1 (bj t) ++ Ku t
open Go Go.RowKit
variable {P : Program} {Γ : Nat→List AV} {G : Gh} {s : AS} {w : World} {N : Nat}
variable {Γ : Nat→List AV} {s : AS}
namespace Sha
def ep (a b : Nat) : Nat:=(a + b) % 4294967296
def mb (x n : Nat) : Nat:=(x / 2 ^ n) ||| ((x * 2 ^ (32 - n)) % 4294967296)
def MZ (x a b c : Nat) : Nat:=(mb x a ^^^ mb x b) ^^^ mb x c
def DC (x a b c : Nat) : Nat:=(mb x a ^^^ mb x b) ^^^ (x / 2 ^ c)
def HQ (a b c d : Nat) : Nat:=((a * 256 + b) * 256 + c) * 256 + d
def word (c : List UInt8) (p : List Nat) (i : Nat) : Nat :=
  if i < 16 then HQ ((c.getD (4 * i) 0).toNat) ((c.getD (4 * i + 1) 0).toNat) ((c.getD (4 * i + 2) 0).toNat) ((c.getD (4 * i + 3) 0).toNat)
  else ep (ep (ep (DC (p.getD (i - 2) 0) 17 19 10) (p.getD (i - 7) 0)) (DC (p.getD (i - 15) 0) 7 18 3)) (p.getD (i - 16) 0)
def lV (c : List UInt8) : Nat→List Nat
  | 0=>[]
  | n + 1=>lV c n ++ [word c (lV c n) n]
theorem cG (c : List UInt8) (n : Nat) : (lV c n).length = n:=by
  induction n with
  | zero=>rfl
  | succ n ih=>simp [lV,ih]
def t1 (e f g h k w : Nat) : Nat:=ep (ep (ep (ep h (MZ e 6 11 25)) ((e &&& f) ^^^ ((4294967295 - e) &&& g))) k) w
def t2 (a b c : Nat) : Nat:=ep (MZ a 2 13 22) (((a &&& b) ^^^ (a &&& c)) ^^^ (b &&& c))
structure St where
  a : Nat
  b : Nat
  c : Nat
  d : Nat
  e : Nat
  f : Nat
  g : Nat
  h : Nat
def St.step (s : St) (k w : Nat) : St :=
  ⟨ep (t1 s.e s.f s.g s.h k w) (t2 s.a s.b s.c),s.a,s.b,s.c,ep s.d (t1 s.e s.f s.g s.h k w),s.e,s.f,s.g⟩
def St.add (s t : St) : St:=⟨ep s.a t.a,ep s.b t.b,ep s.c t.c,ep s.d t.d,ep s.e t.e,ep s.f t.f,ep s.g t.g,ep s.h t.h⟩
def St.list (s : St) : List Nat:=[s.a,s.b,s.c,s.d,s.e,s.f,s.g,s.h]
structure St.ok (s : St) : Prop where
  a : s.a < 4294967296
  b : s.b < 4294967296
  c : s.c < 4294967296
  d : s.d < 4294967296
  e : s.e < 4294967296
  f : s.f < 4294967296
  g : s.g < 4294967296
  h : s.h < 4294967296
def K : List Nat:=[
  0x428a2f98,0x71374491,0xb5c0fbcf,0xe9b5dba5,0x3956c25b,0x59f111f1,0x923f82a4,0xab1c5ed5,
  0xd807aa98,0x12835b01,0x243185be,0x550c7dc3,0x72be5d74,0x80deb1fe,0x9bdc06a7,0xc19bf174,
  0xe49b69c1,0xefbe4786,0x0fc19dc6,0x240ca1cc,0x2de92c6f,0x4a7484aa,0x5cb0a9dc,0x76f988da,
  0x983e5152,0xa831c66d,0xb00327c8,0xbf597fc7,0xc6e00bf3,0xd5a79147,0x06ca6351,0x14292967,
  0x27b70a85,0x2e1b2138,0x4d2c6dfc,0x53380d13,0x650a7354,0x766a0abb,0x81c2c92e,0x92722c85,
  0xa2bfe8a1,0xa81a664b,0xc24b8b70,0xc76c51a3,0xd192e819,0xd6990624,0xf40e3585,0x106aa070,
  0x19a4c116,0x1e376c08,0x2748774c,0x34b0bcb5,0x391c0cb3,0x4ed8aa4a,0x5b9cca4f,0x682e6ff3,
  0x748f82ee,0x78a5636f,0x84c87814,0x8cc70208,0x90befffa,0xa4506ceb,0xbef9a3f7,0xc67178f2]
def H0 : St:=⟨0x6a09e667,0xbb67ae85,0x3c6ef372,0xa54ff53a,0x510e527f,0x9b05688c,0x1f83d9ab,0x5be0cd19⟩
def rounds (w : List Nat) (s : St) : Nat→St
  | 0=>s
  | n + 1=>(rounds w s n).step (K.getD n 0) (w.getD n 0)
def mix (s : St) (c : List UInt8) : St:=s.add (rounds (lV c 64) s 64)
def nB (l : List UInt8) (i : Nat) : List UInt8:=(l.drop (64 * i)).take 64
def hash (l : List UInt8) : Nat→St
  | 0=>H0
  | n + 1=>mix (hash l n) (nB l n)
def gJ (n : Nat) : Nat:=(119 - n % 64) % 64
def xd (n : Nat) : List UInt8:=[UInt8.ofNat (8 * n / 2 ^ 56),UInt8.ofNat (8 * n / 2 ^ 48),UInt8.ofNat (8 * n / 2 ^ 40),UInt8.ofNat (8 * n / 2 ^ 32),UInt8.ofNat (8 * n / 2 ^ 24),UInt8.ofNat (8 * n / 2 ^ 16),UInt8.ofNat (8 * n / 2 ^ 8),UInt8.ofNat (8 * n)]
def pad (l : List UInt8) : List UInt8:=l ++ (128 :: (List.replicate (gJ l.length) 0 ++ xd l.length))
theorem r7 (l : List UInt8) : (pad l).length = l.length + 9 + gJ l.length:=by simp [pad,xd]; omega
theorem I8 (l : List UInt8) : (pad l).length % 64 = 0:=by rw [r7,gJ]; omega
def be (x : Nat) : List UInt8:=[UInt8.ofNat (x / 2 ^ 24),UInt8.ofNat (x / 2 ^ 16),UInt8.ofNat (x / 2 ^ 8),UInt8.ofNat x]
def St.bytes (s : St) : List UInt8:=be s.a ++ be s.b ++ be s.c ++ be s.d ++ be s.e ++ be s.f ++ be s.g ++ be s.h
def sum (l : List UInt8) : List UInt8:=(hash (pad l) ((pad l).length / 64)).bytes
theorem dQ (l : List UInt8) : (sum l).length = 32:=rfl
theorem fR (a b : Nat) : ep a b < 4294967296:=Nat.mod_lt _ (by decide)
theorem cq {x : Nat} (n : Nat) (h : x < 4294967296) : mb x n < 4294967296 :=
  Nat.or_lt_two_pow (n:=32) (Nat.lt_of_le_of_lt (Nat.div_le_self _ _) h) (Nat.mod_lt _ (by decide))
theorem Ql (a b c d : UInt8) : HQ a.toNat b.toNat c.toNat d.toNat < 4294967296:=by
  have:=a.toNat_lt; have:=b.toNat_lt; have:=c.toNat_lt; have:=d.toNat_lt;simp only [HQ]; omega
theorem Qm (c : List UInt8) (p : List Nat) (i : Nat) : word c p i < 4294967296:=by
  unfold word;split
  · exact Ql _ _ _ _
  · exact fR _ _
theorem Ua (c : List UInt8) (n : Nat) : ∀ x ∈ lV c n,x < 4294967296:=by
  induction n with
  | zero=>intro x hx; simp [lV] at hx
  | succ n ih =>
    intro x hx;simp only [lV,List.mem_append,List.mem_singleton] at hx;rcases hx with hx | rfl
    · exact ih x hx
    · exact Qm _ _ _
theorem mA (c : List UInt8) (n i : Nat) : (lV c n).getD i 0 < 4294967296:=by
  rw [List.getD_eq_getElem?_getD];cases h : (lV c n)[i]? with
  | none=>simp
  | some x=>exact Ua c n x (List.mem_of_getElem? h)
theorem ZS : H0.ok:=by constructor <;> decide
theorem St.ok.step {s : St} (h : s.ok) (k w : Nat) : (s.step k w).ok:=⟨fR _ _,h.a,h.b,h.c,fR _ _,h.e,h.f,h.g⟩
theorem St.ok.add (s t : St) : (s.add t).ok:=⟨fR _ _,fR _ _,fR _ _,fR _ _,fR _ _,fR _ _,fR _ _,fR _ _⟩
theorem vl {w : List Nat} {s : St} (h : s.ok) : ∀ n,(rounds w s n).ok
  | 0=>h
  | n + 1=>(vl h n).step _ _
theorem Ub (s : St) (c : List UInt8) : (mix s c).ok:=St.ok.add _ _
theorem I9 (l : List UInt8) : ∀ n,(hash l n).ok
  | 0=>ZS
  | n + 1=>Ub _ _
end Sha
namespace Mac
def key (k : List UInt8) : List UInt8:=if 64 < k.length then Sha.sum k else k
def fill (k : List UInt8) : List UInt8:=k ++ List.replicate (64 - k.length) 0
def turn (x : UInt8) (l : List UInt8) : List UInt8:=l.map fun c=>c ^^^ x
def inner (k l : List UInt8) : List UInt8:=Sha.sum (turn 54 (fill (key k)) ++ l)
def tag (k l : List UInt8) : List UInt8:=Sha.sum (turn 92 (fill (key k)) ++ inner k l)
theorem M0 (k : List UInt8) : (key k).length≤64:=by
  unfold key;split
  · rw [Sha.dQ]; decide
  · omega
theorem qd (k : List UInt8) (h : k.length≤64) : (fill k).length = 64:=by simp [fill]; omega
theorem ns (x : UInt8) (l : List UInt8) : (turn x l).length = l.length:=by simp [turn]
theorem mB (k l : List UInt8) : (tag k l).length = 32:=Sha.dQ _
theorem B9 (k l : List UInt8) : (inner k l).length = 32:=Sha.dQ _
def part (x : UInt8) (l : List UInt8) (i : Nat) : List UInt8:=turn x (l.take i) ++ l.drop i
theorem Kv (x : UInt8) (l : List UInt8) : part x l 0 = l:=by simp [part,turn]
theorem M3 (x : UInt8) (l : List UInt8) (i : Nat) (h : l.length≤i) : part x l i = turn x l:=by
  rw [part,List.take_of_length_le h,List.drop_eq_nil_of_le h,List.append_nil]
theorem FE (x : UInt8) (l : List UInt8) (i : Nat) : (part x l i).length = l.length:=by simp [part,turn]; omega
theorem M4 (x : UInt8) (l : List UInt8) (i : Nat) (h : i < l.length) : List.drop i ((part x l i).map ai) = ai (l.getD i 0) :: List.drop (i + 1) ((part x l i).map ai):=by
  have hl : ((part x l i).map ai).length = l.length:=(by rw [List.length_map,FE]);rw [List.drop_eq_getElem_cons (by omega)];congr 1;rw [List.getElem_map];congr 1;simp only [part];rw [List.getElem_append_right (by simp [turn]; omega)];have e : (turn x (l.take i)).length = i:=(by simp [turn]; omega);simp only [e,Nat.sub_self,List.getElem_drop,Nat.add_zero];simp [List.getD_eq_getElem?_getD,h]
theorem M5 (x : UInt8) (l : List UInt8) (i : Nat) (h : i < l.length) : ((part x l i).map ai).set i (ai (l.getD i 0 ^^^ x)) = (part x l (i + 1)).map ai:=by
  rw [← List.map_set];congr 1;simp only [part];have e : (turn x (l.take i)).length = i:=(by simp [turn]; omega);rw [List.set_append_right _ _ (by omega),e,Nat.sub_self,List.drop_eq_getElem_cons h,List.set_cons_zero,List.take_succ_eq_append_getElem h];simp only [turn,List.map_append,List.map_cons,List.map_nil,List.append_assoc,List.cons_append,List.nil_append,List.getD_eq_getElem?_getD,List.getElem?_eq_getElem h,Option.getD_some]
theorem zk (a b : UInt8) : Eg .u8 (a.toNat : Int) (b.toNat : Int) = (((a ^^^ b).toNat : Nat) : Int):=by
  rw [GS (k:=.u8) rfl a.toNat b.toNat (by simpa [IntKind.bits] using a.toNat_lt) (by simpa [IntKind.bits] using b.toNat_lt),UInt8.toNat_xor]
theorem mU : ∀ (ds cs : List AV) (off : Nat),off + ds.length≤cs.length→bn cs off ds = cs.take off ++ ds ++ cs.drop (off + ds.length)
  | [],cs,off,h=>by simp [bn]
  | d :: ds,cs,off,h=>by
    rw [bn,mU ds (cs.set off d) (off + 1) (by simp at h ⊢; omega)];simp only [List.length_cons] at h;have h1 : (cs.set off d).take (off + 1) = cs.take off ++ [d]:=by
      rw [List.take_succ_eq_append_getElem (by simp; omega),List.getElem_set_self,List.take_set_of_le (Nat.le_refl off)]
    have h2 : (cs.set off d).drop (off + 1 + ds.length) = cs.drop (off + (ds.length + 1)):=by
      rw [List.drop_set_of_lt (by omega)];congr 1;omega
    rw [h1,h2,List.length_cons];simp
theorem HR (k : List UInt8) (h : k.length≤64) : bn (List.replicate 64 (ai 0)) 0 (k.map ai) = (fill k).map ai:=by
  rw [mU _ _ _ (by simpa using h)];simp only [List.take_zero,List.nil_append,Nat.zero_add,List.length_map,fill,List.map_append,List.map_replicate,List.drop_replicate]
end Mac
open Go
end Go.AM
namespace Go.AM
open Go
theorem Mz (t : List ao) (i : Nat) (x : ao) (j : Nat) : nd (t.set i x) j = if i = j∧i < t.length then x else nd t j:=by
  unfold nd;simp only [List.getD_eq_getElem?_getD,List.getElem?_set];by_cases h : i = j
  · by_cases k : i < t.length
    · rw [if_pos h,if_pos k,if_pos ⟨h,k⟩]; rfl
    · rw [if_pos h,if_neg k,if_neg (fun q=>k q.2)];subst h;rw [List.getElem?_eq_none (by omega)]
  · rw [if_neg h,if_neg (fun q=>h q.1)]
theorem M6 {t : List ao} {L : Nat} (hL : bj t = L) (i : Int) : eW t i↔0≤i∧i < (L : Int)∧(nd t (2 * i.toNat)).kind = 1:=by unfold eW; rw [hL]
theorem M7 {t : List ao} {L : Nat} (hL : bj t = L) (i : Nat) : eW t (i : Int)↔i < L∧(nd t (2 * i)).kind = 1:=by
  rw [M6 hL,Int.toNat_natCast];exact ⟨fun h=>⟨by omega,h.2.2⟩,fun h=>⟨by omega,by omega,h.2⟩⟩
open Go Go.RowKit
variable {P : Program} {Γ : Nat→List AV} {s : AS}
def zN : List AV:=[.v (.int .i64 0),.v (.slice none 0 0),.v (.int .u64 0),.v (.slice none 0 0),.v (.slice none 0 0)]
def pN : ao × AV:=(ao.kA,bZ)
end Go.AM
namespace Go.Proofs.YtbiefppedlodiaaGreatDoor
open Go Go.AM Go.Proofs Tryz
variable {Γ : Nat→List AV}
abbrev wV (x : Nat) : AV:=.v (.int .u32 (x : Int))
theorem tU (a : Nat) (h : a < 32) : Eh .i64 (a : Int) = -(a : Int):=by
 rw [Eh,IntWalk.i64_in _ (by omega)];omega
theorem Kw (a : Nat) (h0 : 0 < a) (h : a < 32) : lX .u64 (cB .u64 (-(a : Int))) 31 = ((32 - a : Nat) : Int):=by
 have e : cB .u64 (-(a : Int)) = ((18446744073709551616 - a : Nat) : Int):=by
  rw [cB,kv rfl];simp only [IntKind.bits];omega
 rw [e,show (31 : Int) = ((31 : Nat) : Int) from rfl,rM rfl _ _ (by simp only [IntKind.bits]; omega) (by decide)];congr 1;have : (18446744073709551616 - a) &&& 31 = (18446744073709551616 - a) % 2 ^ 5:=Nat.and_two_pow_sub_one_eq_mod _ 5;rw [this];omega
theorem mC (a : Nat) : ¬ ((a : Nat) : Int) < 0:=by omega
theorem Qn (a : Nat) (h0 : 0 < a) (h : a < 32) : eC .u64 32 ((32 - a : Nat) : Int) = ((a : Nat) : Int):=by
 have:=Bv (k:=.u64) rfl 32 (32 - a) (by omega) (by decide);rw [show (32 : Int) = ((32 : Nat) : Int) from rfl,this];congr 1;omega
theorem Qo (x a : Nat) (hx : x < 4294967296) (h0 : 0 < a) (h : a < 32) : Gy .u32 (ko .u32 (x : Int) ((32 - a : Nat) : Int)) (fa .u32 (x : Int) ((a : Nat) : Int)) = ((Sha.mb x a : Nat) : Int):=by
 rw [rN rfl,iu];rw [Bw rfl _ _ (Nat.mod_lt _ (by decide)) (by simp only [IntKind.bits]; exact Nat.lt_of_le_of_lt (Nat.div_le_self _ _) hx)];rw [Sha.mb,Nat.or_comm];simp only [IntKind.bits];rw [Nat.min_eq_left (by omega),Nat.min_eq_left (by omega)]
theorem oX (a b : Nat) (ha : a < 4294967296) (hb : b < 4294967296) : Eg .u32 (a : Int) (b : Int) = ((a ^^^ b : Nat) : Int):=GS rfl a b ha hb
theorem A4 (a b : Nat) (ha : a < 4294967296) (hb : b < 4294967296) : lX .u32 (a : Int) (b : Int) = ((a &&& b : Nat) : Int):=rM rfl a b ha hb
theorem ZT (a b : Nat) (ha : a < 4294967296) (hb : b < 4294967296) : Gy .u32 (a : Int) (b : Int) = ((a ||| b : Nat) : Int):=Bw rfl a b ha hb
theorem tV (a b : Nat) : eu .u32 (a : Int) (b : Int) = ((Sha.ep a b : Nat) : Int):=uE rfl a b
theorem ZU (a : Nat) (ha : a < 4294967296) : Ln .u32 (a : Int) = ((4294967295 - a : Nat) : Int):=S6 rfl a ha
theorem vm (a c : Nat) (hc : c < 32) : fa .u32 (a : Int) ((c : Nat) : Int) = ((a / 2 ^ c : Nat) : Int):=by
 rw [iu];simp only [IntKind.bits];rw [Nat.min_eq_left (by omega)]
theorem M8 (a c : Nat) (hc : c < 32) : ko .u32 (a : Int) ((c : Nat) : Int) = (((a * 2 ^ c) % 4294967296 : Nat) : Int):=by
 rw [rN rfl];simp only [IntKind.bits];rw [Nat.min_eq_left (by omega)]
theorem lO (x a : Nat) (hx : x < 4294967296) (h0 : 0 < a) (h : a < 32) (s : AS) :
  ah prog Γ 250 [wV x,.v (.int .i64 (-(a : Int)))] s (fun r s'=>r = wV (Sha.mb x a)∧s' = s):=by
 refine ab func250 rfl ntmps250 results250 (by simp) ?_;refine jA ?_;refine jB (Kw a h0 h) ?_;refine jB (Ai @mC (Ai (Qn a h0 h) (Qo x a hx h0 h))) ?_;refine jI ?_;exact ⟨_,s,AV.aA.refl _,AS.le.refl s,rfl,rfl⟩
theorem tW (x a b c : Nat) (hx : x < 4294967296) (ha0 : 0 < a) (ha : a < 32) (ZV : 0 < b) (hb : b < 32) (OJ : 0 < c) (hc : c < 32) (s : AS) :
  ah prog Γ 234 [wV x,.v (.int .i64 (a : Int)),.v (.int .i64 (b : Int)),.v (.int .i64 (c : Int))] s (fun r s'=>r = wV (Sha.MZ x a b c)∧s' = s):=by
 refine ab func234 rfl ntmps234 results234 (by simp) ?_;refine jA ?_;refine jS (tU a ha) fun K hK=>?_;refine ad (lO x a hx ha0 ha _) ?_;rintro r s1 ⟨rfl,rfl⟩;refine jN (tU b hb) ?_;refine ad (lO x b hx ZV hb _) ?_;rintro r s2 ⟨rfl,rfl⟩;refine jN (Ai (tU c hc) (oX _ _ (Sha.cq a hx) (Sha.cq b hx))) ?_;refine ad (lO x c hx OJ hc _) ?_;rintro r s3 ⟨rfl,rfl⟩;refine jV (oX _ _ (Nat.xor_lt_two_pow (n:=32) (Sha.cq a hx) (Sha.cq b hx)) (Sha.cq c hx)) hK ?_;clear hK K;exact jJ
theorem ry (x a b c : Nat) (hx : x < 4294967296) (ha0 : 0 < a) (ha : a < 32) (ZV : 0 < b) (hb : b < 32) (OJ : 0 < c) (hc : c < 32) (s : AS) :
  ah prog Γ 249 [wV x,.v (.int .i64 (a : Int)),.v (.int .i64 (b : Int)),.v (.int .i64 (c : Int))] s (fun r s'=>r = wV (Sha.DC x a b c)∧s' = s):=by
 refine ab func249 rfl ntmps249 results249 (by simp) ?_;refine jA ?_;refine bB T.mixed [3,7] (by kernel_rfl) ?_;intro K hK;refine jN (tU a ha) ?_;refine ad (lO x a hx ha0 ha _) ?_;rintro r s1 ⟨rfl,rfl⟩;refine jN (tU b hb) ?_;refine ad (lO x b hx ZV hb _) ?_;rintro r s2 ⟨rfl,rfl⟩;refine jV (Ai (oX _ _ (Sha.cq a hx) (Sha.cq b hx)) (Ai @mC (Ai (vm x c hc) (oX _ _ (Nat.xor_lt_two_pow (n:=32) (Sha.cq a hx) (Sha.cq b hx)) (Nat.lt_of_le_of_lt (Nat.div_le_self x (2 ^ c)) hx))))) hK ?_;clear hK K;exact jJ
theorem Kx (a : Nat) (h : a < 32) : eC .i64 32 ((a : Nat) : Int) = ((32 - a : Nat) : Int):=by
 rw [dM (by omega)];omega
theorem Ky (x a : Nat) (hx : x < 4294967296) (h0 : 0 < a) (h : a < 32) : Gy .u32 (fa .u32 (x : Int) ((a : Nat) : Int)) (ko .u32 (x : Int) ((32 - a : Nat) : Int)) = ((Sha.mb x a : Nat) : Int):=by
 rw [M8 x (32 - a) (by omega),vm x a h,ZT _ _ (Nat.lt_of_le_of_lt (Nat.div_le_self _ _) hx) (Nat.mod_lt _ (by decide)),Sha.mb]
theorem dG (x a : Nat) (hx : x < 4294967296) (h0 : 0 < a) (h : a < 32) (s : AS) :
  ah prog Γ 210 [wV x,.v (.int .i64 (a : Int))] s (fun r s'=>r = wV (Sha.mb x a)∧s' = s):=by
 refine ab func210 rfl ntmps210 results210 (by simp) ?_;refine jA ?_;refine bB T.mixed [] (by kernel_rfl) ?_;intro K hK;refine jV (Ai @mC (Ai (Kx a h) (Ky x a hx h0 h))) hK ?_;clear hK K;refine jI ?_;exact ⟨_,s,AV.aA.refl _,AS.le.refl s,rfl,rfl⟩
theorem HS (s : AS) :
  ah prog Γ 208 [] s (fun r s'=>r = .sl 1 64 (Sha.K.map wV) .no∧s' = s):=by
 refine ab func208 rfl ntmps208 results208 (by simp) ?_;refine jA ?_;refine jA ?_;refine jI ?_;exact ⟨_,s,AV.Pj rfl,AS.le.refl s,rfl,rfl⟩
end Go.Proofs.YtbiefppedlodiaaGreatDoor
