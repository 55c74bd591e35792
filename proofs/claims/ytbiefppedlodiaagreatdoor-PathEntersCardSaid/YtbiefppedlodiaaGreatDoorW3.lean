/- Contracts of functions, each walked once; each theorem states its conditions. -/
import Derived.Test.YtbiefppedlodiaaGreatDoorAMp6
import Derived.Test.YtbiefppedlodiaaGreatDoorW1
import Derived.Test.YtbiefppedlodiaaGreatDoorW2
import Derived.Test.YtbiefppedlodiaaGreatDoorAMp5
set_option linter.unusedSimpArgs false
set_option linter.unusedVariables false
open Nat renaming reduceLT → Na, reduceLeDiff → Nb, reduceEqDiff → Nc, reduceAdd → Nk, reduceMul → Nf, reducePow → Ng, reduceSub → Nh, reduceBEq → Nz
open Int renaming reduceLT → Za, reduceLE → Zb, reduceToNat → Zc
open And renaming intro → Ai
open Go.AM renaming ashift → Qa, aconv → Qb, aindexAddr → Qc, aindex → Qd, aslice → Qe, abuiltin → Qf, awp_reg_seq → wS, awp_reg_end → wE, awp_seq_k → wK, awp_cond_k → wC
open Go.AM.AV renaming cells → Qg, one → Qh
set_option maxRecDepth 100000
set_option maxHeartbeats 8000000
namespace Go.Proofs.YtbiefppedlodiaaGreatDoor
open Go Go.AM Go.Proofs Tryz
variable {Γ : Nat→List AV}
theorem ed {a b : Int} (h : a≠b) : (a == b) = false:=by simpa using h
theorem iQ {a b : Int} (h : a = b) : (a == b) = true:=by simpa using h
theorem B0 (l : List Int) (hl : l.length≤2 ^ 61) (s : AS) : ai prog Γ 197 [aH l .any] s (fun r s'=>r = .v (.bool (decide (kP l)))∧s' = s):=by
 refine aa func197 rfl ntmps197 results197 (by simp) ?_;unfold aH;refine jA ?_;refine wK fun K hK=>?_;refine jA ?_;refine ag ?_;refine aC (fun E s1=>∃ i : Nat,i≤l.length∧E 7 = .v (.int .i64 i)∧E 6 = .v (.int .i64 l.length)∧E 0 = .sl 1 l.length (l.map aM) .any∧E 5 = .sl 1 l.length (l.map aM) .any∧(∀ j,j < i→tE l j)∧s1 = s)
  (fun E _=>match E 7 with | .v (.int _ i)=>l.length - i.toNat | _=>0) ?_ ?_
 ·exact ⟨0,Nat.zero_le _,by simp [aF],by simp [aF],by simp [aF,bz],by simp [aF,bz],by simp,rfl⟩
 ·rintro E1 s1 ⟨i,hi,h7,h6,h0,h5,bR,rfl⟩ -
  by_cases aX : i < l.length
  ·refine jB (Ai @h7 (Ai @h6 (Ai @ax (decide_eq_true aX)))) ?_;refine wK fun K2 aV=>?_;refine jE ?_;refine ab ?_;refine aV _ _ ?_;clear aV K2;refine wK fun K3 br=>?_;refine ag ?_;have cz : (0 : Int)≤(i : Int):=(by omega);have dw:=eU aX;have iz : (tE l i)→∀ E2 : Env,E2 7 = .v (.int .i64 i)→E2 6 = .v (.int .i64 l.length)→E2 0 = .sl 1 l.length (l.map aM) .any→E2 5 = .sl 1 l.length (l.map aM) .any→K3 E2 s1:=by
    intro ho E2 g7 g6 g0 g5;refine br _ _ ?_;clear br K3;refine jD (Ai @g7 (eF i (by omega))) ?_;refine ⟨⟨i + 1,by omega,rfl,g6,g0,g5,?_,rfl⟩,?_⟩
    ·intro j hj;by_cases Eu : j < i
     ·exact bR j Eu
     ·obtain rfl : j = i:=(by omega);exact ho
    ·simp only [h7,aF,↓reduceIte];omega
   clear br;have ef : ¬ tE l i→decide (kP l) = false:=fun h=>decide_eq_false fun hr=>h (hr i aX);refine jB (Ai @h7 (Ai @h5 (Ai @cz (Ai @ax (Ai @aX @dw))))) ?_;by_cases h1 : l[i] < 0
   ·refine jB (decide_eq_true h1) ?_;refine jE ?_;refine jA ?_;refine aW ?_;simp only [az,ar];simp only [b8,bt,bD,cU,List.toList_toArray,↓ba]; try simp only [UP,DF,Nc,↓reduceIte,DT]
    rw [ef (fun h=>by have:=kQ aX h; omega)];exact jW ⟨rfl,rfl⟩
   by_cases h2 : 32≤l[i]
   ·refine jB (Ai (decide_eq_false h1) (decide_eq_true h2)) ?_;refine jE ?_;refine jA ?_;refine aW ?_;simp only [az,ar];simp only [b8,bt,bD,cU,List.toList_toArray,↓ba]; try simp only [UP,DF,Nc,↓reduceIte,DT]
    rw [ef (fun h=>by have:=kQ aX h; omega)];exact jW ⟨rfl,rfl⟩
   by_cases h3 : (0 : Int) < (i : Int)
   ·have hj : i - 1 < l.length:=(by omega);have oZ : dC .i64 (i : Int) 1 = ((i - 1 : Nat) : Int):=(by rw [cf (by omega)]; omega);have Kl:=eU hj;have mz : (0 : Int)≤((i - 1 : Nat) : Int):=(by omega);by_cases h4 : l[i]≤l[i - 1]
    ·refine jB (Ai (decide_eq_false h1) (Ai (decide_eq_false h2) (Ai (decide_eq_true h3) (Ai @h0 (Ai @oZ (Ai @mz (Ai @ax (Ai @hj (Ai @Kl (decide_eq_true h4)))))))))) ?_;refine jE ?_;refine jA ?_;refine aW ?_;simp only [az,ar];simp only [b8,bt,bD,cU,List.toList_toArray,↓ba]; try simp only [UP,DF,Nc,↓reduceIte,DT]
     rw [ef (fun h=>by have:=(kQ aX h).2.2 (by omega); omega)];exact jW ⟨rfl,rfl⟩
    ·refine jB (Ai (decide_eq_false h1) (Ai (decide_eq_false h2) (Ai (decide_eq_true h3) (Ai @h0 (Ai @oZ (Ai @mz (Ai @ax (Ai @hj (Ai @Kl (decide_eq_false h4)))))))))) ?_;refine jF ?_;refine ab ?_;simp only [ar,az,if_true,if_false];exact iz (vU aX (by omega) (by omega) (fun _=>by omega)) _ h7 h6 h0 h5
   ·refine jB (Ai (decide_eq_false h1) (Ai (decide_eq_false h2) (decide_eq_false h3))) ?_;refine jF ?_;refine ab ?_;simp only [ar,az,if_true,if_false];exact iz (vU aX (by omega) (by omega) (fun q=>by omega)) _ h7 h6 h0 h5
  ·refine jB (Ai @h7 (Ai @h6 (Ai @ax (decide_eq_false aX)))) ?_;refine wK fun K2 aV=>?_;refine jF ?_;refine aA ?_;simp only [az,ar,if_true];refine hK _ _ ?_;clear hK aV K K2;refine jA ?_;refine jI ?_;refine jW ⟨?_,rfl⟩;rw [decide_eq_true (show kP l from fun j hj=>bR j (by omega))]
theorem qS (N : al) (s : AS) : ai prog Γ 196 [.agg N.cells] s (fun r s'=>r = .v (.bool (decide N.held))∧s' = s):=by
 refine aa func196 rfl ntmps196 results196 (by simp) ?_;unfold al.cells;obtain ⟨k,m,y,p,u⟩:=N;refine aY 1 (by simp [ct]) ?_;intro K hK;refine jN @aH.eq_1 ?_;intro o ho;refine hK _ _ o _ rfl ho ?_;clear hK K ho;have hr : ∀ b,(al.held ⟨k,m,y,p,u⟩↔b = true)→decide (al.held ⟨k,m,y,p,u⟩) = b:=by
  intro b h;cases b
  ·exact decide_eq_false (fun h2=>by have:=h.1 h2; cases this)
  ·exact decide_eq_true (h.2 rfl)
 by_cases h1 : 2≤(y : Int)∧(y : Int)≤2305843009213693949
 ·have hd : (decide (2≤(y : Int)) && decide ((y : Int)≤2305843009213693949)) = true:=(by simp; omega);by_cases h2 : p.length = 0
  ·refine jQ fun K hK=>?_;refine ad (cb y s) ?_;rintro r s' ⟨rfl,rfl⟩;rw [hd];refine jV (Ai @h2 (show (((0 : Nat) : Int) == 0) = true from rfl)) hK ?_;clear hK K;refine jI ?_;rw [hr true ⟨fun _=>rfl,fun _=>⟨by simp only; omega,by simp only; omega,.inl h2⟩⟩];exact jW ⟨rfl,rfl⟩
  ·by_cases h3 : p.length = 32
   ·refine jQ fun K hK=>?_;refine ad (cb y s) ?_;rintro r s' ⟨rfl,rfl⟩;rw [hd];refine jV (Ai @h3 (Ai (show (((32 : Nat) : Int) == 0) = false from rfl) (show (((32 : Nat) : Int) == 32) = true from rfl))) hK ?_;clear hK K;refine jI ?_;rw [hr true ⟨fun _=>rfl,fun _=>⟨by simp only; omega,by simp only; omega,.inr h3⟩⟩];exact jW ⟨rfl,rfl⟩
   ·refine jQ fun K hK=>?_;refine ad (cb y s) ?_;rintro r s' ⟨rfl,rfl⟩;rw [hd];refine jV (Ai (ed (show (p.length : Int)≠0 by omega)) (ed (show (p.length : Int)≠32 by omega))) hK ?_;clear hK K;refine jI ?_;rw [hr false ⟨fun h=>by have:=h.2.2; simp only at this; omega,fun h=>by cases h⟩];exact jW ⟨rfl,rfl⟩
 ·have hd : (decide (2≤(y : Int)) && decide ((y : Int)≤2305843009213693949)) = false:=(by simp; omega);refine jQ fun K hK=>?_;refine ad (cb y s) ?_;rintro r s' ⟨rfl,rfl⟩;rw [hd];refine jR hK ?_;clear hK K;refine jI ?_;rw [hr false ⟨fun h=>by have:=h.1; have:=h.2.1; simp only at *; omega,fun h=>by cases h⟩];exact jW ⟨rfl,rfl⟩
theorem sH : (AV.agg [.v (.int .i64 0),.v (.slice none 0 0),.v (.int .u64 0),.v (.slice none 0 0),.v (.slice none 0 0)]).aB (.agg al.iO.cells) :=
 AV.oD (.cons (AV.aB.refl _) (.cons AV.aI (.cons (AV.aB.refl _) (.cons AV.aI (.cons AV.aI .nil)))))
theorem jv (N : al) (hl : N.jk.length≤2 ^ 61) (s : AS) : ai prog Γ 161 [.agg N.cells] s (fun r s'=>r = .v (.bool (decide N.right))∧s' = s):=by
 refine aa func161 rfl ntmps161 results161 (by simp) ?_;unfold al.cells;obtain ⟨k,m,y,p,u⟩:=N;refine aY 1 (by simp [ct]) ?_;intro K hK;refine jN @aH.eq_1 ?_;intro o ho;refine hK _ _ o _ rfl ho ?_;clear hK K ho;have mf : ∀ b,(al.right ⟨k,m,y,p,u⟩↔b = true)→decide (al.right ⟨k,m,y,p,u⟩) = b:=by
  intro b h;cases b
  ·exact decide_eq_false (fun h2=>by have:=h.1 h2; cases this)
  ·exact decide_eq_true (h.2 rfl)
 refine wK fun K hK=>?_;refine jA ?_;refine ag ?_;by_cases h0 : k = 0
 ·refine jB (iQ h0) ?_;refine jE ?_;refine jS @aH.eq_1 fun K hK=>?_;refine ad (ai.gz (.cons (AV.aB.refl _) (.cons sH .nil)) (xH ⟨k,m,y,p,u⟩ al.iO hl s)) ?_;rintro r s' ⟨rfl,rfl⟩;refine jR hK ?_;clear hK K;refine aW ?_;simp only [az,ar];simp only [b8,bt,bD,cU,List.toList_toArray,↓ba]; try simp only [UP,DF,Nc,↓reduceIte,DT]
  refine jW ⟨?_,rfl⟩;rw [mf _ ((qI (N:=⟨k,m,y,p,u⟩) h0).trans decide_eq_true_iff.symm)]
 by_cases h1 : k = 1
 ·have vA:=kq (N:=⟨k,m,y,p,u⟩) h1;simp only at vA;rcases ff4 (decide (1≤(m.length : Int))) (decide ((m.length : Int)≤16)) (decide (al.held ⟨k,m,y,p,u⟩)) ((u.length : Int) == 0) with hd | hd | hd | hd | hd;case inl | inr.inl =>
   refine jB (ed h0) ?_;refine jF ?_;refine jB (iQ h1) ?_;refine jE ?_;refine jB (Ai @hd @aH.eq_1) ?_;refine aW ?_;simp only [az,ar];simp only [b8,bt,bD,cU,List.toList_toArray,↓ba]; try simp only [UP,DF,Nc,↓reduceIte,DT]
   refine jW ⟨?_,rfl⟩;simp only [decide_eq_true_eq,decide_eq_false_iff_not,beq_iff_eq] at hd;rw [mf false ⟨fun h=>by have:=vA.1 h; omega,fun h=>by cases h⟩]
  all_goals
   refine jB (ed h0) ?_;refine jF ?_;refine jB (iQ h1) ?_;refine jE ?_;refine jS (Ai @hd @aH.eq_1) fun K hK=>?_;refine ad (qS ⟨k,m,y,p,u⟩ s) ?_;rintro r s' ⟨rfl,rfl⟩;refine jV (Ai @hd @aH.eq_1) hK ?_;clear hK K;refine aW ?_;simp only [az,ar];simp only [b8,bt,bD,cU,List.toList_toArray,↓ba]; try simp only [UP,DF,Nc,↓reduceIte,DT]
   refine jW ⟨?_,rfl⟩;simp only [decide_eq_true_eq,decide_eq_false_iff_not,beq_iff_eq,beq_eq_false_iff_ne] at hd
  ·rw [mf false ⟨fun h=>absurd (vA.1 h).2.2.1 hd.2.2,fun h=>by cases h⟩]
  ·rw [mf false ⟨fun h=>by have:=(vA.1 h).2.2.2; omega,fun h=>by cases h⟩]
  ·rw [mf true ⟨fun _=>rfl,fun _=>vA.2 ⟨by omega,by omega,hd.2.2.1,by omega⟩⟩]
 by_cases h2 : k = 2
 ·have vA:=ks (N:=⟨k,m,y,p,u⟩) h2;simp only at vA hl;rcases ZX ((m.length : Int) == 0) (decide (al.held ⟨k,m,y,p,u⟩)) (decide (kP u)) with hd | hd | hd | hd;all_goals
   refine jB (ed h0) ?_;refine jF ?_;refine jB (ed h1) ?_;refine jF ?_;refine jB (iQ h2) ?_;refine jE ?_
  ·refine jB (Ai @hd @aH.eq_1) ?_;refine aW ?_;simp only [az,ar];simp only [b8,bt,bD,cU,List.toList_toArray,↓ba]; try simp only [UP,DF,Nc,↓reduceIte,DT]
   refine jW ⟨?_,rfl⟩;simp only [beq_eq_false_iff_ne] at hd;rw [mf false ⟨fun h=>by have:=(vA.1 h).1; omega,fun h=>by cases h⟩]
  ·refine jS (Ai @hd @aH.eq_1) fun K hK=>?_;refine ad (qS ⟨k,m,y,p,u⟩ s) ?_;rintro r s' ⟨rfl,rfl⟩;refine jV (Ai @hd @aH.eq_1) hK ?_;clear hK K;refine aW ?_;simp only [az,ar];simp only [b8,bt,bD,cU,List.toList_toArray,↓ba]; try simp only [UP,DF,Nc,↓reduceIte,DT]
   refine jW ⟨?_,rfl⟩;simp only [decide_eq_false_iff_not] at hd;rw [mf false ⟨fun h=>absurd (vA.1 h).2.1 hd.2,fun h=>by cases h⟩]
  all_goals
   refine jS (Ai @hd @aH.eq_1) fun K hK=>?_;refine ad (qS ⟨k,m,y,p,u⟩ s) ?_;rintro r s' ⟨rfl,rfl⟩;refine jN (Ai @hd @aH.eq_1) ?_;refine ad (B0 u hl _) ?_;rintro r s' ⟨rfl,rfl⟩;refine jV (Ai @hd @aH.eq_1) hK ?_;clear hK K;refine aW ?_;simp only [az,ar];simp only [b8,bt,bD,cU,List.toList_toArray,↓ba]; try simp only [UP,DF,Nc,↓reduceIte,DT]
   refine jW ⟨?_,rfl⟩;simp only [decide_eq_true_eq,decide_eq_false_iff_not,beq_iff_eq] at hd
  ·rw [mf false ⟨fun h=>absurd (vA.1 h).2.2 hd.2.2,fun h=>by cases h⟩]
  ·rw [mf true ⟨fun _=>rfl,fun _=>vA.2 ⟨by omega,hd.2.1,hd.2.2⟩⟩]
 ·refine jB (ed h0) ?_;refine jF ?_;refine jB (ed h1) ?_;refine jF ?_;refine jB (ed h2) ?_;refine jF ?_;refine ab ?_;simp only [ar,az,if_true,if_false];refine hK _ _ ?_;clear hK K;refine jA ?_;refine jI ?_;refine jW ⟨?_,rfl⟩;rw [mf false ⟨fun h=>absurd h (xm (N:=⟨k,m,y,p,u⟩) h0 h1 h2),fun h=>by cases h⟩]
theorem FG {N : al} (h0 : N.kind≠0) (h : N.right) : N.held:=by
 unfold al.right at h;rw [if_neg h0] at h;split at h
 ·exact h.2.2.1
 ·split at h
  ·exact h.2.1
  ·exact h.elim
theorem tU (N : al) (hl : N.jk.length≤2 ^ 61) (s : AS) : ai prog Γ 63 [.agg N.cells] s (fun r s'=>r = .v (.bool (decide N.right))∧s' = s):=by
 refine aa func63 rfl ntmps63 results63 (by simp) ?_;unfold al.cells;obtain ⟨k,m,y,p,u⟩:=N;simp only at hl;refine aY 1 (by simp [ct]) ?_;intro K hK;refine jN @aH.eq_1 ?_;intro o ho;refine hK _ _ o _ rfl ho ?_;clear hK K ho;have mf : ∀ b,(al.right ⟨k,m,y,p,u⟩↔b = true)→decide (al.right ⟨k,m,y,p,u⟩) = b:=by
  intro b h;cases b
  ·exact decide_eq_false (fun h2=>by have:=h.1 h2; cases this)
  ·exact decide_eq_true (h.2 rfl)
 refine wK fun K hK=>?_;by_cases h0 : k = 0
 ·refine jB (iQ h0) ?_;refine jE ?_;refine jS @aH.eq_1 fun K hK=>?_;refine ad (ai.gz (.cons (AV.aB.refl _) (.cons sH .nil)) (vB ⟨k,m,y,p,u⟩ al.iO hl s)) ?_;rintro r s' ⟨rfl,rfl⟩;refine jR hK ?_;clear hK K;refine jI ?_;refine jW ⟨?_,rfl⟩;rw [mf _ ((qI (N:=⟨k,m,y,p,u⟩) h0).trans decide_eq_true_iff.symm)];try rfl
 ·refine jB (ed h0) ?_;refine jF ?_;refine ab ?_;refine hK _ _ ?_;clear hK K;refine wK fun K0 RK=>?_;refine jQ fun K hK=>?_;refine ad (tT y s) ?_;rintro r s' ⟨rfl,rfl⟩;by_cases hh : al.held ⟨k,m,y,p,u⟩
  ·have hh':=hh;obtain ⟨e1,e2,e3⟩:=hh';simp only at e1 e2 e3;rw [show (decide (2≤(y : Int)) && decide ((y : Int)≤2305843009213693949)) = true from by simp; omega];have pK : ∀ E2 : Env,E2 1 = .dc [.v (.int .i64 k),.sl 1 m.length (m.map ah) .any,.v (.int .u64 y),.sl 1 p.length (p.map ah) .any,.sl 1 u.length (u.map aM) .any]→K0 E2 s':=by
    intro E2 g1;refine RK _ _ ?_;clear RK K0 hK K;refine wK fun K hK=>?_;by_cases h1 : k = 1
    ·have vA:=kq (N:=⟨k,m,y,p,u⟩) h1;simp only at vA;refine jB (Ai @g1 (iQ h1)) ?_;refine jE ?_;rcases ZX (decide (1≤(m.length : Int))) (decide ((m.length : Int)≤16)) ((u.length : Int) == 0) with hd | hd | hd | hd;all_goals
      refine jB (Ai @g1 @hd) ?_;refine jI ?_;refine jW ⟨?_,rfl⟩;simp only [decide_eq_true_eq,decide_eq_false_iff_not,beq_iff_eq,beq_eq_false_iff_ne] at hd
     ·rw [mf false ⟨fun h=>by have:=vA.1 h; omega,fun h=>by cases h⟩];try rfl
     ·rw [mf false ⟨fun h=>by have:=vA.1 h; omega,fun h=>by cases h⟩];try rfl
     ·rw [mf false ⟨fun h=>by have:=(vA.1 h).2.2.2; omega,fun h=>by cases h⟩];try rfl
     ·rw [mf true ⟨fun _=>rfl,fun _=>vA.2 ⟨by omega,by omega,hh,by omega⟩⟩];try rfl
    ·refine jB (Ai @g1 (ed h1)) ?_;refine jF ?_;refine ab ?_;refine hK _ _ ?_;clear hK K;refine wK fun K hK=>?_;by_cases h2 : k = 2
     ·have vA:=ks (N:=⟨k,m,y,p,u⟩) h2;simp only at vA;by_cases hm : (0 : Int) < (m.length : Int)
      ·refine jB (Ai @g1 (Ai (fZ h2) (decide_eq_true hm))) ?_;refine jE ?_;refine jA ?_;refine jI ?_;refine jW ⟨?_,rfl⟩;rw [mf false ⟨fun h=>by have:=(vA.1 h).1; omega,fun h=>by cases h⟩];try rfl
      ·refine jB (Ai @g1 (Ai (fZ h2) (decide_eq_false hm))) ?_;refine jF ?_;refine ab ?_;refine hK _ _ ?_;clear hK K;refine wK fun K hK=>?_;refine jB @g1 ?_;refine ag ?_;refine aC (fun E s1=>∃ i : Nat,i≤u.length∧E 3 = .v (.int .i64 i)∧E 1 = .dc [.v (.int .i64 k),.sl 1 m.length (m.map ah) .any,.v (.int .u64 y),.sl 1 p.length (p.map ah) .any,.sl 1 u.length (u.map aM) .any]∧(∀ j,j < i→tE u j)∧s1 = s')
        (fun E _=>match E 3 with | .v (.int _ i)=>u.length - i.toNat | _=>0) ?_ ?_
       ·exact ⟨0,Nat.zero_le _,rfl,g1,by simp,rfl⟩
       ·rintro E3 s1 ⟨i,hi,h3,NM,bR,rfl⟩ -
        refine wK fun K2 aV=>?_;by_cases aX : i < u.length
        ·refine jB (Ai @h3 (Ai @NM (Ai @ax (decide_eq_true aX)))) ?_;refine jE ?_;refine ab ?_;refine aV _ _ ?_;clear aV K2;refine wK fun K3 br=>?_;refine ag ?_;have cz : (0 : Int)≤(i : Int):=(by omega);have dw:=eU aX;have iz : (tE u i)→∀ E4 : Env,E4 3 = .v (.int .i64 i)→E4 1 = .dc [.v (.int .i64 k),.sl 1 m.length (m.map ah) .any,.v (.int .u64 y),.sl 1 p.length (p.map ah) .any,.sl 1 u.length (u.map aM) .any]→K3 E4 s1:=by
          intro ho E4 g3 g41;refine br _ _ ?_;clear br K3;refine jD (Ai @g3 (eF i (by omega))) ?_;refine ⟨⟨i + 1,by omega,rfl,g41,?_,rfl⟩,?_⟩
          ·intro j hj;by_cases Eu : j < i
           ·exact bR j Eu
           ·obtain rfl : j = i:=(by omega);exact ho
          ·simp only [h3,aF,↓reduceIte];omega
         clear br;have ef : ¬ tE u i→decide (al.right ⟨k,m,y,p,u⟩) = false:=fun h=>mf false ⟨fun hr=>absurd ((vA.1 hr).2.2 i aX) h,fun h=>by cases h⟩;by_cases q1 : u[i] < 0
         ·refine bn T.mixed [] (by kernel_rfl) ?_;intro K hK;refine jV (Ai @h3 (Ai @NM (Ai @cz (Ai @ax (Ai @aX (Ai @dw (decide_eq_true q1))))))) hK ?_;clear hK K;refine jE ?_;refine jA ?_;refine aW ?_;simp only [az,ar];simp only [b8,bt,bD,cU,List.toList_toArray,↓ba]; try simp only [UP,DF,Nc,↓reduceIte,DT]
          rw [ef (fun h=>by have:=kQ aX h; omega)];exact jW ⟨rfl,rfl⟩
         by_cases q2 : 31 < u[i]
         ·refine bn T.mixed [] (by kernel_rfl) ?_;intro K hK;refine jV (Ai @h3 (Ai @NM (Ai @cz (Ai @ax (Ai @aX (Ai @dw (Ai (decide_eq_false q1) (decide_eq_true q2)))))))) hK ?_;clear hK K;refine jE ?_;refine jA ?_;refine aW ?_;simp only [az,ar];simp only [b8,bt,bD,cU,List.toList_toArray,↓ba]; try simp only [UP,DF,Nc,↓reduceIte,DT]
          rw [ef (fun h=>by have:=kQ aX h; omega)];exact jW ⟨rfl,rfl⟩
         by_cases q3 : (0 : Int) < (i : Int)
         ·have hj : i - 1 < u.length:=(by omega);have oZ : dC .i64 (i : Int) 1 = ((i - 1 : Nat) : Int):=(by rw [cf (by omega)]; omega);have Kl:=eU hj;have mz : (0 : Int)≤((i - 1 : Nat) : Int):=(by omega);by_cases q4 : u[i]≤u[i - 1]
          ·refine bn T.mixed [] (by kernel_rfl) ?_;intro K hK;refine jV (Ai @h3 (Ai @NM (Ai @cz (Ai @ax (Ai @aX (Ai @dw (Ai (decide_eq_false q1) (Ai (decide_eq_false q2) (Ai (decide_eq_true q3) (Ai @oZ (Ai @mz (Ai @hj (Ai @Kl (decide_eq_true q4)))))))))))))) hK ?_;clear hK K;refine jE ?_;refine jA ?_;refine aW ?_;simp only [az,ar];simp only [b8,bt,bD,cU,List.toList_toArray,↓ba]; try simp only [UP,DF,Nc,↓reduceIte,DT]
           rw [ef (fun h=>by have:=(kQ aX h).2.2 (by omega); omega)];exact jW ⟨rfl,rfl⟩
          ·refine bn T.mixed [] (by kernel_rfl) ?_;intro K hK;refine jV (Ai @h3 (Ai @NM (Ai @cz (Ai @ax (Ai @aX (Ai @dw (Ai (decide_eq_false q1) (Ai (decide_eq_false q2) (Ai (decide_eq_true q3) (Ai @oZ (Ai @mz (Ai @hj (Ai @Kl (decide_eq_false q4)))))))))))))) hK ?_;clear hK K;refine jF ?_;refine ab ?_;simp only [ar,az,if_true,if_false];exact iz (vU aX (by omega) (by omega) (fun _=>by omega)) _ h3 NM
         ·refine bn T.mixed [] (by kernel_rfl) ?_;intro K hK;refine jV (Ai @h3 (Ai @NM (Ai @cz (Ai @ax (Ai @aX (Ai @dw (Ai (decide_eq_false q1) (Ai (decide_eq_false q2) (decide_eq_false q3))))))))) hK ?_;clear hK K;refine jF ?_;refine ab ?_;simp only [ar,az,if_true,if_false];exact iz (vU aX (by omega) (by omega) (fun q=>by omega)) _ h3 NM
        ·refine jB (Ai @h3 (Ai @NM (Ai @ax (decide_eq_false aX)))) ?_;refine jF ?_;refine aA ?_;simp only [az,ar,if_true];refine hK _ _ ?_;clear hK aV K K2;refine jA ?_;refine jI ?_;refine jW ⟨?_,rfl⟩;rw [mf true ⟨fun _=>rfl,fun _=>vA.2 ⟨by omega,hh,fun j hj=>bR j (by omega)⟩⟩];try rfl
     ·refine jB (Ai @g1 (fC h2)) ?_;refine jE ?_;refine jA ?_;refine jI ?_;refine jW ⟨?_,rfl⟩;rw [mf false ⟨fun h=>absurd h (xm (N:=⟨k,m,y,p,u⟩) h0 h1 h2),fun h=>by cases h⟩];try rfl
   clear RK;rcases e3 with e3 | e3
   ·refine jV (Ai @e3 (show (((0 : Nat) : Int) != 0) = false from rfl)) hK ?_;clear hK K;refine jF ?_;refine ab ?_;exact pK _ (by simp only [aF,Nc,↓reduceIte,e3])
   ·refine jV (Ai @e3 (Ai (show (((32 : Nat) : Int) != 0) = true from rfl) (show (((32 : Nat) : Int) != 32) = false from rfl))) hK ?_;clear hK K;refine jF ?_;refine ab ?_;exact pK _ (by simp only [aF,Nc,↓reduceIte,e3])
  ·have Km : decide (al.right ⟨k,m,y,p,u⟩) = false:=mf false ⟨fun h=>absurd (FG (N:=⟨k,m,y,p,u⟩) h0 h) hh,fun h=>by cases h⟩;by_cases e1 : 2≤(y : Int)∧(y : Int)≤2305843009213693949
   ·have e3 : ¬ (p.length = 0∨p.length = 32):=fun e=>hh ⟨by simp only; omega,by simp only; omega,e⟩;rw [show (decide (2≤(y : Int)) && decide ((y : Int)≤2305843009213693949)) = true from by simp; omega];refine jV (Ai (fC (show (p.length : Int)≠0 by omega)) (fC (show (p.length : Int)≠32 by omega))) hK ?_;clear hK K;refine jE ?_;refine jA ?_;refine jI ?_;rw [Km];exact jW ⟨rfl,rfl⟩
   ·rw [show (decide (2≤(y : Int)) && decide ((y : Int)≤2305843009213693949)) = false from by simp; omega];refine jR hK ?_;clear hK K;refine jE ?_;refine jA ?_;refine jI ?_;rw [Km];exact jW ⟨rfl,rfl⟩
def dq (N : al) (st : List UInt8 × Bool) : List UInt8 × Bool:=if N.right then dR N.text st else (st.1,true)
theorem nP (N : al) (hl : N.jk.length≤2 ^ 61) (s0 s : AS) (p : Nat) (st : List UInt8 × Bool) (iG : st.1.length + 200≤2 ^ 45) (h : fI s0 s p st) :
  ai prog Γ 236 [.ptr p 0,.agg N.cells] s (fun r s'=>r = .dX []∧fI s0 s' p (dq N st)):=by
 refine aa func236 rfl ntmps236 results236 (by simp) ?_;unfold al.cells;obtain ⟨k,m,y,pa,u⟩:=N;refine aY 3 (by simp [ct]) ?_;intro K hK;refine jN @aH.eq_1 ?_;intro o ho;refine hK _ _ o _ rfl ho ?_;clear hK K ho;refine wK fun K hK=>?_;refine jQ fun K hK=>?_;refine ad (jv ⟨k,m,y,pa,u⟩ hl s) ?_;rintro r s' ⟨rfl,rfl⟩;have hlen : ∀ a,(dR a st).1.length≤st.1.length + a.length:=fun a=>wY a st;by_cases hr : al.right ⟨k,m,y,pa,u⟩
 ·rw [decide_eq_true hr];refine jR hK ?_;clear hK K;refine jF ?_;refine ab ?_;refine hK _ _ ?_;clear hK K;have Ko : dq ⟨k,m,y,pa,u⟩ st = dR (al.text ⟨k,m,y,pa,u⟩) st:=if_pos hr;rw [Ko];rcases pB hr with hk | hk | hk
  ·simp only at hk;subst hk;refine jQ fun K hK=>?_;refine ad (fk s0 s' p st ((0 : Nat) : Int) (by omega) (by omega) h) ?_;rintro r s1 ⟨rfl,q1⟩;rw [fy (by decide)] at q1;refine jR hK ?_;clear hK K;refine wK fun K hK=>?_;refine wS fun K hK=>?_;simp only [↓DN,Qa,Qb,Qc,Qd,Qe,Qf,Qg,Qh,reduceCtorEq,↓reduceIte,Na,Nb,Nc,Nk,Nf,Ng,Nh,Za,Zb,Zc,TT,Int.reduceBEq];refine hK _ _ ?_;clear hK K;refine jE ?_;refine jI ?_;exact jW ⟨rfl,q1⟩
  ·obtain ⟨h1,h2,⟨h3,h4,h5⟩,h6⟩:=(kq hk).1 hr;simp only at hk h1 h2 h3 h4 h5 h6;subst hk;refine jQ fun K hK=>?_;refine ad (fk s0 s' p st ((1 : Nat) : Int) (by omega) (by omega) h) ?_;rintro r s1 ⟨rfl,q1⟩;rw [fy (by decide)] at q1;refine jR hK ?_;clear hK K;refine wK fun K hK=>?_;refine wS fun K hK=>?_;simp only [↓DN,Qa,Qb,Qc,Qd,Qe,Qf,Qg,Qh,reduceCtorEq,↓reduceIte,Na,Nb,Nc,Nk,Nf,Ng,Nh,Za,Zb,Zc,TT,Int.reduceBEq];refine hK _ _ ?_;clear hK K;refine jF ?_;refine ab ?_;refine hK _ _ ?_;clear hK K;refine wK fun K hK=>?_;refine wS fun K hK=>?_;simp only [↓DN,Qa,Qb,Qc,Qd,Qe,Qf,Qg,Qh,reduceCtorEq,↓reduceIte,Na,Nb,Nc,Nk,Nf,Ng,Nh,Za,Zb,Zc,TT,Int.reduceBEq];refine hK _ _ ?_;clear hK K;refine jE ?_;refine jT fun K hK=>?_;refine ad (fm s0 s1 p _ _ m (yL.any m) (by have:=hlen (be 1 1); simp at this ⊢; omega) q1) ?_;rintro r s2 ⟨rfl,q2⟩;rw [oM (by omega),fh] at q2;refine jR hK ?_;clear hK K;refine hK _ _ ?_;clear hK K;refine jQ fun K hK=>?_;refine ad (kj s0 s2 p _ y (by omega) (by refine Nat.le_trans (Nat.add_le_add_right (hlen _) _) ?_; simp; omega) q2) ?_;rintro r s3 ⟨rfl,q3⟩;rw [qJ,fh] at q3;refine jR hK ?_;clear hK K;refine jQ fun K hK=>?_;refine ad (fm s0 s3 p _ _ pa (yL.any pa) (by refine Nat.le_trans (Nat.add_le_add_right (Nat.add_le_add_right (hlen _) _) _) ?_; simp; omega) q3) ?_;rintro r s4 ⟨rfl,q4⟩;rw [oM (by omega),fh] at q4;refine jR hK ?_;clear hK K;refine wS fun K hK=>?_;simp only [↓DN,Qa,Qb,Qc,Qd,Qe,Qf,Qg,Qh,reduceCtorEq,↓reduceIte,Na,Nb,Nc,Nk,Nf,Ng,Nh,Za,Zb,Zc,TT,Int.reduceBEq];refine hK _ _ ?_;clear hK K;refine jF ?_;refine ab ?_;simp only [b8,bt,bD,cU,List.toList_toArray,↓ba]; try simp only [UP,DF,Nc,↓reduceIte,DT]
   refine jW ⟨rfl,?_⟩;rw [show al.text ⟨1,m,y,pa,u⟩ = be 1 1 ++ (be 1 m.length ++ m) ++ be 8 y ++ (be 1 pa.length ++ pa) from rfl];exact q4
  ·obtain ⟨h1,⟨h3,h4,h5⟩,h6⟩:=(ks hk).1 hr;simp only at hk h1 h3 h4 h5 h6;subst hk;have hu:=qK h6;refine jQ fun K hK=>?_;refine ad (fk s0 s' p st ((2 : Nat) : Int) (by omega) (by omega) h) ?_;rintro r s1 ⟨rfl,q1⟩;rw [fy (by decide)] at q1;refine jR hK ?_;clear hK K;refine wK fun K hK=>?_;refine wS fun K hK=>?_;simp only [↓DN,Qa,Qb,Qc,Qd,Qe,Qf,Qg,Qh,reduceCtorEq,↓reduceIte,Na,Nb,Nc,Nk,Nf,Ng,Nh,Za,Zb,Zc,TT,Int.reduceBEq];refine hK _ _ ?_;clear hK K;refine jF ?_;refine ab ?_;refine hK _ _ ?_;clear hK K;refine wK fun K hK=>?_;refine wS fun K hK=>?_;simp only [↓DN,Qa,Qb,Qc,Qd,Qe,Qf,Qg,Qh,reduceCtorEq,↓reduceIte,Na,Nb,Nc,Nk,Nf,Ng,Nh,Za,Zb,Zc,TT,Int.reduceBEq];refine hK _ _ ?_;clear hK K;refine jF ?_;refine ab ?_;refine hK _ _ ?_;clear hK K;refine jQ fun K hK=>?_;refine ad (kj s0 s1 p _ y (by omega) (by refine Nat.le_trans (Nat.add_le_add_right (hlen _) _) ?_; simp; omega) q1) ?_;rintro r s3 ⟨rfl,q3⟩;rw [qJ,fh] at q3;refine jR hK ?_;clear hK K;refine jQ fun K hK=>?_;refine ad (fm s0 s3 p _ _ pa (yL.any pa) (by refine Nat.le_trans (Nat.add_le_add_right (Nat.add_le_add_right (hlen _) _) _) ?_; simp; omega) q3) ?_;rintro r s4 ⟨rfl,q4⟩;rw [oM (by omega),fh] at q4;refine jR hK ?_;clear hK K;refine wS fun K hK=>?_;simp only [↓DN,Qa,Qb,Qc,Qd,Qe,Qf,Qg,Qh,reduceCtorEq,↓reduceIte,Na,Nb,Nc,Nk,Nf,Ng,Nh,Za,Zb,Zc,TT,Int.reduceBEq];refine hK _ _ ?_;clear hK K;refine jE ?_;refine jQ fun K hK=>?_;refine ad (fk s0 s4 p _ (u.length : Int) (by omega) (by refine Nat.le_trans (Nat.add_le_add_right (hlen _) _) ?_; simp; omega) q4) ?_;rintro r s5 ⟨rfl,q5⟩;rw [fy (by omega),fh] at q5;obtain ⟨A,hA⟩ : ∃ A,A = be 1 2 ++ be 8 y ++ (be 1 pa.length ++ pa) ++ be 1 u.length:=⟨_,rfl⟩;have hAl : A.length≤50:=(by rw [hA]; simp; omega);rw [← hA] at q5;have Zq : al.text ⟨2,m,y,pa,u⟩ = A ++ gR u:=(by rw [hA]; rfl);refine jR hK ?_;clear hK K;refine jA ?_;refine ag ?_;refine aC (fun E s2=>∃ i : Nat,i≤u.length∧E 44 = .v (.int .i64 i)∧E 43 = .v (.int .i64 u.length)∧E 42 = .sl 1 u.length (u.map aM) .any∧E 0 = .ptr p 0∧fI s0 s2 p (dR (A ++ gR (u.take i)) st))
    (fun E _=>match E 44 with | .v (.int _ i)=>u.length - i.toNat | _=>0) ?_ ?_
   ·exact ⟨0,Nat.zero_le _,rfl,rfl,rfl,by simp only [aF,bz,Nc,↓reduceIte,List.getD_cons_zero],by simpa [gR] using q5⟩
   ·rintro E1 s6 ⟨i,hi,Xk,g43,g42,g0,q6⟩ -
    by_cases aX : i < u.length
    ·refine jB (Ai @Xk (Ai @g43 (Ai @ax (decide_eq_true aX)))) ?_;refine wK fun K2 aV=>?_;refine jE ?_;refine ab ?_;refine aV _ _ ?_;clear aV K2;refine wK fun K3 br=>?_;refine ag ?_;have cz : (0 : Int)≤(i : Int):=(by omega);have dw:=eU aX;have hx:=xo h6 (List.getElem_mem aX);refine jB (Ai @Xk (Ai @g42 (Ai @cz (Ai @ax (Ai @aX @dw))))) ?_;refine jU @g0 fun K hK=>?_;have hxn : u[i] = ((u[i]).toNat : Int):=(by omega);refine ad (fk s0 s6 p _ u[i] (by omega) (by refine Nat.le_trans (Nat.add_le_add_right (hlen _) _) ?_; simp [m8]; omega) q6) ?_;rintro r s7 ⟨rfl,q7⟩;rw [hxn,fy (by omega),fh,List.append_assoc,← yV,← List.take_succ_eq_append_getElem aX] at q7;refine jR hK ?_;clear hK K;simp only [ar,az,if_true,if_false];refine br _ _ ?_;clear br K3;refine jD (Ai @Xk (eF i (by omega))) ?_;refine ⟨⟨i + 1,by omega,rfl,g43,g42,g0,q7⟩,?_⟩;simp only [Xk,aF,↓reduceIte];omega
    ·refine jB (Ai @Xk (Ai @g43 (Ai @ax (decide_eq_false aX)))) ?_;refine wK fun K2 aV=>?_;refine jF ?_;refine aA ?_;simp only [az,ar,if_true];simp only [b8,bt,bD,cU,List.toList_toArray,↓ba]; try simp only [UP,DF,Nc,↓reduceIte,DT]
     refine jW ⟨rfl,?_⟩;rw [List.take_of_length_le (by omega)] at q6;rw [Zq];exact q6
 ·rw [decide_eq_false hr];refine jR hK ?_;clear hK K;refine jE ?_;refine jQ fun K hK=>?_;refine ad (fk s0 s' p st (-1) (by omega) (by omega) h) ?_;rintro r s1 ⟨rfl,q1⟩;refine jR hK ?_;clear hK K;refine jI ?_;refine jW ⟨rfl,?_⟩;rw [show dq ⟨k,m,y,pa,u⟩ st = bd 1 (-1) st from (if_neg hr).trans (if_neg (by omega)).symm];exact q1
theorem nn (t : List al) (ht : t.length≤2 ^ 61) (s : AS) : ai prog Γ 104 [aZ t] s (fun r s'=>r = .v (.int .i64 (aU t))∧s' = s):=by
 refine aa func104 rfl ntmps104 results104 (by simp) ?_;have e0 : kA .i64 (dP .i64 (t.length : Int) 1) 2 = ((((t.length + 1) / 2 : Nat)) : Int):=(by rw [bj _ (by omega),eG _ (by omega)]);obtain ⟨h,hh⟩ : ∃ h,h = (t.length + 1) / 2:=⟨_,rfl⟩;rw [← hh] at e0;unfold aZ;refine jA ?_;refine jB @e0 ?_;refine wK fun K hK=>?_;refine jQ fun K hK=>?_;refine ad (sq h _) ?_;rintro r s1 ⟨rfl,rfl⟩;by_cases hf : Fit h
 ·have SN:=hf.le;rw [decide_eq_true (oO.2 hf)];refine jM ?_;refine ad (qd h _) ?_;rintro r s2 ⟨rfl,rfl⟩;rw [Dw hf];by_cases hw : t.length = 2 * h - 1
  ·have hl : aU t = h:=(by unfold aU; rw [← hh]; exact if_pos ⟨hf,hw⟩);refine jV (PF hw) hK ?_;clear hK K;refine jF ?_;refine ab ?_;refine hK _ _ ?_;clear hK K;refine jA ?_;refine jI ?_;rw [hl];exact jW ⟨rfl,rfl⟩
  ·have hl : aU t = 0:=(by unfold aU; rw [← hh]; exact if_neg (fun k=>hw k.2));refine jV (PE hw) hK ?_;clear hK K;refine jE ?_;refine jA ?_;refine jI ?_;rw [hl];exact jW ⟨rfl,rfl⟩
 ·have hl : aU t = 0:=(by unfold aU; rw [← hh]; exact if_neg (fun k=>hf k.1));rw [decide_eq_false (fun k=>hf (oO.1 k))];refine jR hK ?_;clear hK K;refine jE ?_;refine jA ?_;refine jI ?_;rw [hl];exact jW ⟨rfl,rfl⟩
theorem km (t : List al) (ht : t.length≤2 ^ 61) (i : Int) (s : AS) : ai prog Γ 142 [aZ t,.v (.int .i64 i)] s (fun r s'=>r = .v (.bool (decide (dW t i)))∧s' = s):=by
 refine aa func142 rfl ntmps142 results142 (by simp) ?_;have yD:=fun s=>nn (Γ:=Γ) t ht s;unfold aZ at yD ⊢;refine jA ?_;by_cases h0 : 0≤i
 ·refine jS (decide_eq_true h0) fun K hK=>?_;refine ad (yD _) ?_;rintro r s1 ⟨rfl,rfl⟩;by_cases h1 : i < (aU t : Int)
  ·obtain ⟨n,rfl⟩:=Int.eq_ofNat_of_zero_le h0;have hn : n < aU t:=(by omega);have Xl:=Kb hn;have WG:=FB t;have dw:=dm Xl;have hk : decide (dW t (n : Int)) = ((nd t (2 * n)).kind == 1):=by
    rw [Bool.eq_iff_iff,decide_eq_true_iff,beq_iff_eq];unfold dW;rw [Int.toNat_natCast];exact ⟨fun k=>k.2.2,fun k=>⟨h0,h1,k⟩⟩
   generalize nd t (2 * n) = N at *
   generalize aQ al.cells t = X at *
   obtain ⟨k,nm,y,pa,u⟩:=N;unfold al.cells at dw;have cz : (0 : Int)≤((2 * n : Nat) : Int):=(by omega);refine jV (Ai (decide_eq_true h1) (Ai (decide_eq_true hn) (Ai (ca n (by omega)) (Ai @ax (Ai @Xl (Ai @cz @dw)))))) hK ?_;clear hK K;refine jI ?_;rw [hk];exact jW ⟨rfl,rfl⟩
  ·have hk : decide (dW t i) = false:=decide_eq_false fun k=>h1 k.2.1;refine jV (decide_eq_false h1) hK ?_;clear hK K;refine jI ?_;rw [hk];exact jW ⟨rfl,rfl⟩
 ·have hk : decide (dW t i) = false:=decide_eq_false fun k=>h0 k.1;refine jB (decide_eq_false h0) ?_;refine jI ?_;rw [hk];exact jW ⟨rfl,rfl⟩
theorem zg (t : List al) (ht : t.length≤2 ^ 61) (a k : Nat) (hak : a + k < 2 ^ 61) (s : AS) : ai prog Γ 144 [aZ t,.v (.int .i64 a),.v (.int .i64 (((a + k : Nat) : Int) - 1))] s (fun r s'=>r = .v (.int .i64 (gD (dW t) a k))∧s' = s):=by
 refine aa func144 rfl ntmps144 results144 (by simp) ?_;have hm:=fun i s=>km (Γ:=Γ) t ht i s;unfold aZ at hm ⊢;generalize aQ al.cells t = X at *
 refine jA ?_;refine jA ?_;refine wK fun K hK=>?_;refine jA ?_;refine ag ?_;refine aC (fun E s2=>∃ i : Nat,i≤k∧E 8 = .v (.int .i64 ((a + i : Nat) : Int))∧E 7 = .v (.int .i64 (gD (dW t) a i))∧E 0 = .sl 5 t.length X .any∧E 2 = .v (.int .i64 (((a + k : Nat) : Int) - 1))∧s2 = s)
  (fun E _=>match E 8 with | .v (.int _ i)=>a + k - i.toNat | _=>0) ?_ ?_
 ·exact ⟨0,Nat.zero_le _,rfl,rfl,rfl,rfl,rfl⟩
 ·rintro E1 s2 ⟨i,hi,g8,g7,g0,g2,rfl⟩ -
  refine wK fun K2 aV=>?_;by_cases aX : i < k
  ·have h1 : decide (((a + i : Nat) : Int)≤((a + k : Nat) : Int) - 1) = true:=decide_eq_true (by omega);refine jB (Ai @g8 (Ai @g2 @h1)) ?_;refine jE ?_;refine ab ?_;refine aV _ _ ?_;clear aV K2;refine wK fun K3 br=>?_;refine ag ?_;have bX : ∀ (E : Env),E 8 = .v (.int .i64 ((a + i : Nat) : Int))→E 7 = .v (.int .i64 (gD (dW t) a (i + 1)))→E 0 = .sl 5 t.length X .any→E 2 = .v (.int .i64 (((a + k : Nat) : Int) - 1))→K3 E s2:=by
    intro E f8 f7 f0 f2;refine br _ _ ?_;clear br K3;refine jD (Ai @f8 (bj (a + i) (by omega))) ?_;refine ⟨⟨i + 1,aX,rfl,f7,f0,f2,rfl⟩,?_⟩;simp only [g8,aF,↓reduceIte];omega
   clear br;refine jS (Ai @g0 @g8) fun K hK=>?_;refine ad (hm _ _) ?_;rintro r s3 ⟨rfl,rfl⟩;have hc:=BR (dW t) a i;by_cases hp : dW t ((a + i : Nat) : Int)
   ·rw [decide_eq_true hp];refine jR hK ?_;clear hK K;refine jE ?_;refine jD (Ai @g7 (bj (gD (dW t) a i) (by omega))) ?_;refine bX _ g8 ?_ g0 g2;have : gD (dW t) a (i + 1) = gD (dW t) a i + 1:=(by simp only [gD]; rw [if_pos hp]);rw [this];simp only [aF,Nc,↓reduceIte]
   ·rw [decide_eq_false hp];refine jR hK ?_;clear hK K;refine jF ?_;refine ab ?_;refine bX _ g8 ?_ g0 g2;have : gD (dW t) a (i + 1) = gD (dW t) a i:=(by simp only [gD]; rw [if_neg hp]; omega);rw [this];simp only [aF,g7,Nc,↓reduceIte]
  ·have h1 : decide (((a + i : Nat) : Int)≤((a + k : Nat) : Int) - 1) = false:=decide_eq_false (by omega);refine jB (Ai @g8 (Ai @g2 @h1)) ?_;refine jF ?_;refine aA ?_;simp only [az,ar,if_true];refine hK _ _ ?_;clear hK aV K2 K;obtain rfl : i = k:=(by omega);refine jB @g7 ?_;exact jJ
theorem zh (t : List al) (ht : t.length≤2 ^ 61) (name : List UInt8) (a : Nat) (ha : a≤2 ^ 60) (s : AS) : ai prog Γ 143 [aZ t,aj name .any,.v (.int .i64 a)] s (fun r s'=>r = .v (.int .i64 (nj t name a))∧s' = s):=by
 refine aa func143 rfl ntmps143 results143 (by simp) ?_;have hm:=fun i s=>km (Γ:=Γ) t ht i s;have dw:=fun i (h : i < t.length)=>dm (t:=t) h;obtain ⟨Q,hQ⟩ : ∃ Q : Nat→Bool,Q = fun (j : Nat)=>decide (dW t (j : Int)∧(nd t (2 * j)).name = name):=⟨_,rfl⟩;have fL : nj t name a = bZ Q (gE t - a) a:=(by rw [hQ]; rfl);unfold aZ at hm ⊢;generalize aQ al.cells t = X at *
 refine jA ?_;refine wK fun K hK=>?_;refine jA ?_;refine ag ?_;refine aC (fun E s2=>∃ i : Nat,i≤2 ^ 61∧a≤i∧bZ Q (gE t - i) i = bZ Q (gE t - a) a∧E 7 = .v (.int .i64 i)∧E 0 = .sl 5 t.length X .any∧E 1 = .sl 1 name.length (name.map ah) .any∧s2 = s)
  (fun E _=>match E 7 with | .v (.int _ i)=>gE t - i.toNat | _=>0) ?_ ?_
 ·exact ⟨a,by omega,Nat.le_refl _,rfl,rfl,rfl,rfl,rfl⟩
 ·rintro E1 s2 ⟨i,hi,hai,hf,g7,g0,g1,rfl⟩ -
  refine wK fun K2 aV=>?_;by_cases aX : i < gE t
  ·have fu : 2 * i < t.length:=xA.1 aX;refine jB (Ai @g7 (Ai @g0 (Ai (ca i (by omega)) (Ai @ax (decide_eq_true fu))))) ?_;refine jE ?_;refine ab ?_;refine aV _ _ ?_;clear aV K2;refine wK fun K3 br=>?_;refine ag ?_;obtain ⟨k,hk⟩ : ∃ k,gE t - i = k + 1:=⟨gE t - i - 1,by omega⟩;have sr : gE t - (i + 1) = k:=(by omega);rw [hk] at hf;have tV : Q i = decide (dW t i∧(nd t (2 * i)).name = name):=(by rw [hQ]);have bX : ∀ (E : Env),Q i = false→E 7 = .v (.int .i64 i)→E 0 = .sl 5 t.length X .any→E 1 = .sl 1 name.length (name.map ah) .any→K3 E s2:=by
    intro E hq f7 f0 f1;refine br _ _ ?_;clear br K3;refine jD (Ai @f7 (bj i (by omega))) ?_;refine ⟨⟨i + 1,by omega,by omega,by rw [sr,← hf,je hq],rfl,f0,f1,rfl⟩,?_⟩;simp only [g7,aF,↓reduceIte];omega
   clear br;have iu:=dw (2 * i) fu;generalize nd t (2 * i) = N at *
   obtain ⟨nk,nm,ny,n8,nu⟩:=N;unfold al.cells at iu;simp only at tV;have cz : (0 : Int)≤((2 * i : Nat) : Int):=(by omega);refine jS (Ai @g0 @g7) fun K hK=>?_;refine ad (hm _ _) ?_;rintro r s3 ⟨rfl,rfl⟩;by_cases hp : dW t (i : Int)
   ·rw [decide_eq_true hp];refine jN (Ai @g0 (Ai @g7 (Ai @g1 (Ai (ca i (by omega)) (Ai @ax (Ai @fu (Ai @cz @iu))))))) ?_;refine ad (cP nm name _) ?_;rintro r s4 ⟨rfl,rfl⟩;by_cases hn : nm = name
    ·rw [decide_eq_true hn];rw [decide_eq_true ⟨hp,hn⟩] at tV;refine jR hK ?_;clear hK K;refine jE ?_;refine jB @g7 ?_;refine jI ?_;rw [fL,← hf,jf tV];exact jW ⟨rfl,rfl⟩
    ·rw [decide_eq_false hn];rw [decide_eq_false (fun q=>hn q.2)] at tV;refine jR hK ?_;clear hK K;refine jF ?_;refine ab ?_;exact bX _ tV g7 g0 g1
   ·rw [decide_eq_false hp];rw [decide_eq_false (fun q=>hp q.1)] at tV;refine jR hK ?_;clear hK K;refine jF ?_;refine ab ?_;exact bX _ tV g7 g0 g1
  ·have fu : ¬ 2 * i < t.length:=fun h=>aX (xA.2 h);refine jB (Ai @g7 (Ai @g0 (Ai (ca i (by omega)) (Ai @ax (decide_eq_false fu))))) ?_;refine jF ?_;refine aA ?_;simp only [az,ar,if_true];refine hK _ _ ?_;clear hK aV K2 K;rw [show gE t - i = 0 by omega] at hf;refine jA ?_;refine jI ?_;rw [fL,← hf];exact jW ⟨rfl,rfl⟩
theorem jx (l : List Int) (hl : l.length≤2 ^ 61) (k : FuncId) (hk : af prog k = true) (b6 : List AV) (P : Int→Bool)
  (hP : ∀ x ∈ l,∀ s,ai prog Γ k (.v (.int .i64 x) :: b6) s (fun r s'=>r = .v (.bool (P x))∧s' = s)) (s : AS) :
  ai prog Γ 71 [aH l .any,.pI k b6] s (fun r s'=>r = .v (.int .i64 (bZ (fun i=>P (l.getD i 0)) l.length 0))∧s' = s):=by
 refine aa func71 rfl ntmps71 results71 (by simp) ?_;obtain ⟨Q,hQ⟩ : ∃ Q : Nat→Bool,Q = fun i=>P (l.getD i 0):=⟨_,rfl⟩;rw [← hQ];unfold aH;refine jA ?_;refine wK fun K hK=>?_;refine jA ?_;refine ag ?_;refine aC (fun E s2=>∃ i : Nat,i≤l.length∧bZ Q (l.length - i) i = bZ Q l.length 0∧E 8 = .v (.int .i64 i)∧E 7 = .v (.int .i64 l.length)∧E 0 = .sl 1 l.length (l.map aM) .any∧E 1 = .pI k b6∧s2 = s)
  (fun E _=>match E 8 with | .v (.int _ i)=>l.length - i.toNat | _=>0) ?_ ?_
 ·exact ⟨0,Nat.zero_le _,rfl,rfl,rfl,rfl,rfl,rfl⟩
 ·rintro E1 s2 ⟨i,hi,hf,g8,g7,g0,g1,rfl⟩ -
  by_cases aX : i < l.length
  ·refine jB (Ai @g8 (Ai @g7 (Ai @ax (decide_eq_true aX)))) ?_;refine wK fun K2 aV=>?_;refine jE ?_;refine ab ?_;refine aV _ _ ?_;clear aV K2;refine wK fun K3 br=>?_;refine ag ?_;have tV : Q i = P l[i]:=(by rw [hQ]; simp [List.getD,aX]);have hc:=hP l[i] (List.getElem_mem aX) s2;rw [← tV] at hc;obtain ⟨k',IJ⟩ : ∃ k',l.length - i = k' + 1:=⟨l.length - i - 1,by omega⟩;have Cq : l.length - (i + 1) = k':=(by omega);rw [IJ] at hf;have dw:=eU aX;have cz : (0 : Int)≤(i : Int):=(by omega);refine jB @g8 ?_;refine jS (Ai @g1 (Ai @g0 (Ai @ax (Ai @aX (Ai @cz @dw))))) fun K hK=>?_;refine ⟨hk,?_⟩;refine ad hc ?_;rintro r s3 ⟨rfl,rfl⟩;cases hq : Q i with
   | true =>
    refine jR hK ?_;clear hK K;refine jE ?_;refine jA ?_;refine jI ?_;rw [← hf,jf hq];exact jW ⟨rfl,rfl⟩
   | false =>
    refine jR hK ?_;clear hK K;refine jF ?_;refine ab ?_;simp only [ar,az,if_true,if_false];refine br _ _ ?_;clear br K3;refine jD (Ai @g8 (bj i (by omega))) ?_;refine ⟨⟨i + 1,by omega,by rw [Cq,← hf,je hq],rfl,g7,g0,g1,rfl⟩,?_⟩;simp only [g8,aF,↓reduceIte];omega
  ·refine jB (Ai @g8 (Ai @g7 (Ai @ax (decide_eq_false aX)))) ?_;refine wK fun K2 aV=>?_;refine jF ?_;refine aA ?_;simp only [az,ar,if_true];refine hK _ _ ?_;clear hK aV K2 K;rw [show l.length - i = 0 by omega] at hf;refine jA ?_;refine jI ?_;rw [← hf];exact jW ⟨rfl,rfl⟩
theorem qT (l : List Int) (hl : l.length≤2 ^ 61) (k : FuncId) (hk : af prog k = true) (b6 : List AV) (P : Int→Bool)
  (hP : ∀ x ∈ l,∀ s,ai prog Γ k (.v (.int .i64 x) :: b6) s (fun r s'=>r = .v (.bool (P x))∧s' = s)) (s : AS) :
  ai prog Γ 179 [aH l .any,.pI k b6] s (fun r s'=>r = .v (.bool (l.any P))∧s' = s):=by
 refine aa func179 rfl ntmps179 results179 (by simp) ?_;have hc:=fun s=>jx (Γ:=Γ) l hl k hk b6 P hP s;have ha:=xB P l;generalize bZ (fun i=>P (l.getD i 0)) l.length 0 = n at *
 refine jA ?_;refine jK (hc _) ?_;rintro s1 rfl;refine jI ?_;rw [← ha];exact jW ⟨rfl,rfl⟩
theorem DK : af prog 178 = true:=by kernel_rfl
def kX (t : List al) (a b : Int) (u : Int) : Bool:=decide (u < a) || (decide (b < u) || !decide (dW t u))
theorem zi (t : List al) (ht : t.length≤2 ^ 61) (a b u : Int) (s : AS) : ai prog Γ 178 [.v (.int .i64 u),.dc [.v (.int .i64 a)],.dc [.v (.int .i64 b)],.dc [aZ t]] s (fun r s'=>r = .v (.bool (kX t a b u))∧s' = s):=by
 refine aa func178 rfl ntmps178 results178 (by simp) ?_;have hm:=fun i s=>km (Γ:=Γ) t ht i s;unfold aZ at hm ⊢;generalize aQ al.cells t = X at *
 unfold kX;refine jA ?_;by_cases h1 : u < a
 ·have hr : (decide (u < a) || (decide (b < u) || !decide (dW t u))) = true:=(by rw [decide_eq_true h1]; rfl);refine jB (decide_eq_true h1) ?_;refine jI ?_;rw [hr];exact jW ⟨rfl,rfl⟩
 ·by_cases h2 : b < u
  ·have hr : (decide (u < a) || (decide (b < u) || !decide (dW t u))) = true:=(by rw [decide_eq_true h2,decide_eq_false h1]; rfl);refine jB (Ai (decide_eq_false h1) (decide_eq_true h2)) ?_;refine jI ?_;rw [hr];exact jW ⟨rfl,rfl⟩
  ·have hr : (decide (u < a) || (decide (b < u) || !decide (dW t u))) = !decide (dW t u):=(by rw [decide_eq_false h2,decide_eq_false h1]; rfl);refine jS (Ai (decide_eq_false h1) (decide_eq_false h2)) fun K hK=>?_;refine ad (hm _ _) ?_;rintro r s1 ⟨rfl,rfl⟩;refine jR hK ?_;clear hK K;refine jI ?_;rw [hr];exact jW ⟨rfl,rfl⟩
theorem B1 (hG : Γ 3 = eS.map nH) (t : List al) (ht : dS t) (i : Nat) (hi : i < t.length) (s : AS) : ai prog Γ 141 [aZ t,.v (.int .i64 i)] s (fun r s'=>r = .v (.bool (decide (pd t i)))∧s' = s):=by
 refine aa func141 rfl ntmps141 results141 (by simp) ?_;have Zr:=fun s=>qc (Γ:=Γ) hG (i : Int) s;obtain ⟨a,ha⟩ : ∃ a,a = (kR (i : Int)).1:=⟨_,rfl⟩;obtain ⟨b,hb⟩ : ∃ b,b = (kR (i : Int)).2:=⟨_,rfl⟩;rw [← ha,← hb] at Zr;have hfo:=fun u s=>zi (Γ:=Γ) t ht.1 a b u s;have dw:=dm hi;have hN:=ht.nd i;have cL : pd t i↔(nd t i).right∧((nd t i).kind = 0∨((nd t i).kind = 1↔i % 2 = 0))∧((nd t i).jk.any (kX t a b)) = false:=by
  unfold pd;rw [← ha,← hb];simp only [List.any_eq_false,kX,Bool.or_eq_true,decide_eq_true_eq,Bool.not_eq_true',decide_eq_false_iff_not,not_or,Int.not_lt,Decidable.not_not]
 have Km:=fun s=>jv (Γ:=Γ) (nd t i) hN.1 s;have S7:=fun s=>qT (Γ:=Γ) (nd t i).jk hN.1 _ DK [.dc [.v (.int .i64 a)],.dc [.v (.int .i64 b)],.dc [aZ t]] (kX t a b) (fun x _ s=>hfo x s) s;have FH : decide (pd t i) = (decide (nd t i).right && (((nd t i).kind == 0 || (((nd t i).kind == 1) == (i % 2 == 0))) && !((nd t i).jk.any (kX t a b)))):=by
  rw [Bool.eq_iff_iff,decide_eq_true_iff,cL];simp only [Bool.and_eq_true,decide_eq_true_eq,Bool.or_eq_true,beq_iff_eq,Bool.not_eq_true',Bool.beq_eq_decide_eq];constructor
  ·rintro ⟨x,y,z⟩;exact ⟨x,y.imp id (fun q=>by rw [Bool.eq_iff_iff,decide_eq_true_iff,decide_eq_true_iff]; exact q),z⟩
  ·rintro ⟨x,y,z⟩;exact ⟨x,y.imp id (fun q=>by rw [Bool.eq_iff_iff,decide_eq_true_iff,decide_eq_true_iff] at q; exact q),z⟩
 clear cL;generalize List.any (nd t i).jk (kX t a b) = F at *
 unfold aZ at S7 ⊢;generalize aQ al.cells t = X at *
 clear hfo;generalize decide (pd t i) = Xm at *
 generalize decide (nd t i).right = RT at *
 generalize nd t i = N at *
 obtain ⟨nk,nm,ny,n8,nu⟩:=N;unfold al.cells at dw Km;simp only at FH S7;unfold aH at S7 dw Km;have cz : (0 : Int)≤(i : Int):=(by omega);have aX : i < t.length:=hi;refine aY 2 (by decide) ?_;intro K hK;refine jM ?_;intro o1 h1;refine hK _ _ o1 _ rfl h1 ?_;clear hK K h1;refine aY 5 (by decide) ?_;intro K hK;refine jN (Ai @ax (Ai @aX (Ai @cz @dw))) ?_;intro o1 h1;refine hK _ _ o1 _ rfl h1 ?_;clear hK K h1;refine gP 6 7 (by decide) (by decide) (by decide) ?_;intro K hK;refine jM ?_;refine ad (Zr _) ?_;rintro r s1 ⟨rfl,rfl⟩;refine jM ?_;intro o1 zL o2 pQ;have cW : o1≠o2:=(by rintro rfl; simp at pQ);have CP:=cW.symm;simp only [cW,CP,if_true,if_false,↓reduceIte,List.set_cons_zero,List.set_cons_succ,List.length_cons,List.length_nil,Nat.reduceAdd,Nat.le_refl,true_and];rw [Js cW];refine hK _ _ o1 o2 _ _ rfl rfl zL (by rw [AS.ao _ CP]; simpa [CP] using pQ) ?_;clear hK K zL pQ cW CP;refine jA ?_;have p6 : il (i : Int) 2 = ((i % 2 : Nat) : Int):=kK i 2;have bb : ((true == true) = true∧(false == false) = true)∧((true == false) = false∧(false == true) = false):=⟨⟨rfl,rfl⟩,rfl,rfl⟩;cases RT with
 | false =>
  refine jK (Km _) ?_;rintro s2 rfl;refine jI ?_;rw [FH];exact jW ⟨rfl,rfl⟩
 | true =>
  by_cases k0 : nk = 0
  ·have t0:=mr k0;refine jQ fun K hK=>?_;refine ad (Km _) ?_;rintro r s2 ⟨rfl,rfl⟩;simp only [↓DM,bY,DX,Nz,↓DN,Qa,Qb,Qc,Qd,Qe,Qf,Qg,Qh,reduceCtorEq,↓reduceIte,Na,Nb,Nc,Nk,Nf,Ng,Nh,Za,Zb,Zc,TT,t0];refine ad (S7 _) ?_;rintro r s3 ⟨rfl,rfl⟩;refine jR hK ?_;clear hK K;refine jI ?_;have Mh : (true && ((nk == 0 || ((nk == 1) == (i % 2 == 0))) && !F)) = !F:=(by rw [t0]; cases F <;> rfl);rw [FH,Mh];exact jW ⟨rfl,rfl⟩
  ·have t0:=lU k0;by_cases k1 : nk = 1
   ·have t1:=mr k1;by_cases kp : i % 2 = 0
    ·have t2 : (il (i : Int) 2 == 0) = true:=(by rw [p6]; exact mr (by omega));have t3 : (i % 2 == 0) = true:=(by simpa using kp);have Mh : (true && ((nk == 0 || ((nk == 1) == (i % 2 == 0))) && !F)) = !F:=(by rw [t0,t1,t3]; cases F <;> rfl);refine jQ fun K hK=>?_;refine ad (Km _) ?_;rintro r s2 ⟨rfl,rfl⟩;simp only [↓DM,bY,DX,Nz,↓DN,Qa,Qb,Qc,Qd,Qe,Qf,Qg,Qh,reduceCtorEq,↓reduceIte,Na,Nb,Nc,Nk,Nf,Ng,Nh,Za,Zb,Zc,TT,t0,t1,lV,t2,bb];refine ad (S7 _) ?_;rintro r s3 ⟨rfl,rfl⟩;refine jR hK ?_;clear hK K;refine jI ?_;rw [FH,Mh];exact jW ⟨rfl,rfl⟩
    ·have t2 : (il (i : Int) 2 == 0) = false:=(by rw [p6]; exact lU (by omega));have t3 : (i % 2 == 0) = false:=(by simpa using kp);have Mh : (true && ((nk == 0 || ((nk == 1) == (i % 2 == 0))) && !F)) = false:=(by rw [t0,t1,t3]; cases F <;> rfl);refine jQ fun K hK=>?_;refine ad (Km _) ?_;rintro r s2 ⟨rfl,rfl⟩;simp only [↓DM,bY,DX,Nz,↓DN,Qa,Qb,Qc,Qd,Qe,Qf,Qg,Qh,reduceCtorEq,↓reduceIte,Na,Nb,Nc,Nk,Nf,Ng,Nh,Za,Zb,Zc,TT,t0,t1,lV,t2,bb];refine hK _ _ ?_;clear hK K;refine jI ?_;rw [FH,Mh];exact jW ⟨rfl,rfl⟩
   ·have t1:=lU k1;by_cases kp : i % 2 = 0
    ·have t2 : (il (i : Int) 2 == 0) = true:=(by rw [p6]; exact mr (by omega));have t3 : (i % 2 == 0) = true:=(by simpa using kp);have Mh : (true && ((nk == 0 || ((nk == 1) == (i % 2 == 0))) && !F)) = false:=(by rw [t0,t1,t3]; cases F <;> rfl);refine jQ fun K hK=>?_;refine ad (Km _) ?_;rintro r s2 ⟨rfl,rfl⟩;simp only [↓DM,bY,DX,Nz,↓DN,Qa,Qb,Qc,Qd,Qe,Qf,Qg,Qh,reduceCtorEq,↓reduceIte,Na,Nb,Nc,Nk,Nf,Ng,Nh,Za,Zb,Zc,TT,t0,t1,lV,t2,bb];refine hK _ _ ?_;clear hK K;refine jI ?_;rw [FH,Mh];exact jW ⟨rfl,rfl⟩
    ·have t2 : (il (i : Int) 2 == 0) = false:=(by rw [p6]; exact lU (by omega));have t3 : (i % 2 == 0) = false:=(by simpa using kp);have Mh : (true && ((nk == 0 || ((nk == 1) == (i % 2 == 0))) && !F)) = !F:=(by rw [t0,t1,t3]; cases F <;> rfl);refine jQ fun K hK=>?_;refine ad (Km _) ?_;rintro r s2 ⟨rfl,rfl⟩;simp only [↓DM,bY,DX,Nz,↓DN,Qa,Qb,Qc,Qd,Qe,Qf,Qg,Qh,reduceCtorEq,↓reduceIte,Na,Nb,Nc,Nk,Nf,Ng,Nh,Za,Zb,Zc,TT,t0,t1,lV,t2,bb];refine ad (S7 _) ?_;rintro r s3 ⟨rfl,rfl⟩;refine jR hK ?_;clear hK K;refine jI ?_;rw [FH,Mh];exact jW ⟨rfl,rfl⟩
theorem xI {t : List al} {name : List UInt8} {a : Nat} : decide (0≤nj t name (a + 1)) = false↔∀ j,j < gE t→a < j→¬ (dW t (j : Int)∧(nd t (2 * j)).name = name):=by
 have h:=tQ (fun (j : Nat)=>decide (dW t (j : Int)∧(nd t (2 * j)).name = name)) (gE t - (a + 1)) (a + 1);constructor
 ·intro h1 j h2 h3 h4;have : decide (0≤nj t name (a + 1)) = true:=h.2 ⟨j,by omega,by omega,decide_eq_true h4⟩;rw [h1] at this;cases this
 ·intro h1;cases hd : decide (0≤nj t name (a + 1)) with
  | false=>rfl
  | true =>
   obtain ⟨j,h2,h3,h4⟩:=h.1 hd;exact absurd (of_decide_eq_true h4) (h1 j (by omega) (by omega))
theorem iX (hG : Γ 3 = eS.map nH) (t : List al) (ht : dS t) (s : AS) : ai prog Γ 101 [aZ t] s (fun r s'=>r = .v (.bool (decide (bw t)))∧s' = s):=by
 refine aa func101 rfl ntmps101 results101 (by simp) ?_;have lj:=ht.1;have yD:=fun s=>nn (Γ:=Γ) t lj s;have hmc:=fun i s=>km (Γ:=Γ) t lj i s;have QB:=fun i (h : i < t.length) s=>B1 (Γ:=Γ) hG t ht i h s;have A9:=fun name a (h : a≤2 ^ 60) s=>zh (Γ:=Γ) t lj name a h s;have H6:=fun a k h s=>zg (Γ:=Γ) t lj a k h s;have dw:=fun i (h : i < t.length)=>dm (t:=t) h;have WG:=FB t;have Ks : aU t≠0→t.length = 2 * aU t - 1:=fun h=>(bT.resolve_left h).2;have NN : aU t = 0→decide (bw t) = false:=fun h=>decide_eq_false fun k=>k.1 h;have NP : ∀ i,i < t.length→¬ fN t i→decide (bw t) = false:=fun i h1 h2=>decide_eq_false fun k=>h2 (k.2.1 i h1);have pK : aU t≠0→(∀ i,i < t.length→fN t i)→decide (bw t) = (((aU t : Int) == 1) || decide ((0 : Int) < (gD (dW t) (aU t / 2) (aU t - aU t / 2) : Int))):=by
  intro h1 h2;rw [Bool.eq_iff_iff,decide_eq_true_iff,Bool.or_eq_true,beq_iff_eq,decide_eq_true_iff];constructor
  ·rintro ⟨_,_,h3⟩;exact h3.imp (fun q=>by omega) (fun q=>by omega)
  ·intro h3;exact ⟨h1,h2,h3.imp (fun q=>by omega) (fun q=>by omega)⟩
 unfold aZ at *
 generalize aQ al.cells t = X at *
 generalize decide (bw t) = Xm at *
 refine jA ?_;refine jK (yD _) ?_;rintro s1 rfl;refine wK fun K hK=>?_;refine jA ?_;refine ag ?_;refine aC (fun E s2=>∃ i : Nat,i≤t.length∧(0 < i→aU t≠0)∧(∀ j,j < i→fN t j)∧E 9 = .v (.int .i64 i)∧E 8 = .v (.int .i64 t.length)∧E 3 = .v (.int .i64 (aU t))∧E 0 = .sl 5 t.length X .any∧s2 = s1)
  (fun E _=>match E 9 with | .v (.int _ i)=>t.length - i.toNat | _=>0) ?_ ?_
 ·exact ⟨0,Nat.zero_le _,fun h=>absurd h (Nat.lt_irrefl _),fun j h=>absurd h (Nat.not_lt_zero _),rfl,rfl,rfl,rfl,rfl⟩
 ·rintro E1 s2 ⟨i,hi,YT,bR,g9,g8,g3,g0,rfl⟩ -
  by_cases aX : i < t.length
  ·refine jB (Ai @g9 (Ai @g8 (Ai @ax (decide_eq_true aX)))) ?_;refine wK fun K2 aV=>?_;refine jE ?_;refine ab ?_;refine aV _ _ ?_;clear aV K2;refine wK fun K3 br=>?_;refine ag ?_;refine jB @g9 ?_;by_cases hz : aU t = 0
   ·refine jB (Ai @g3 (M7 hz)) ?_;refine jE ?_;refine jA ?_;refine jI ?_;rw [NN hz];exact jW ⟨rfl,rfl⟩
   ·have eI : fN t i↔pd t i∧(i % 2 = 0→dW t ((i / 2 : Nat) : Int)→decide (0≤nj t (nd t i).name (i / 2 + 1)) = false):=by
     unfold fN;rw [xI]
    have hlen:=Ks hz;have iu:=dw i aX;have NQ:=fun s=>A9 (nd t i).name (i / 2 + 1) (by omega) s;generalize hNI : nj t (nd t i).name (i / 2 + 1) = NI at *
    generalize nd t i = N at *
    obtain ⟨nk,nm,ny,n8,nu⟩:=N;unfold al.cells at iu;simp only at NQ;have cz : (0 : Int)≤(i : Int):=(by omega);have p6 : il (i : Int) 2 = ((i % 2 : Nat) : Int):=kK i 2;have JT : kA .i64 (i : Int) 2 = ((i / 2 : Nat) : Int):=eG i (by omega);have hq3 : dP .i64 ((i / 2 : Nat) : Int) 1 = ((i / 2 + 1 : Nat) : Int):=bj _ (by omega);have bX : fN t i→∀ (E : Env),E 9 = .v (.int .i64 i)→E 8 = .v (.int .i64 t.length)→E 3 = .v (.int .i64 (aU t))→E 0 = .sl 5 t.length X .any→K3 E s2:=by
     intro hg E f9 f8 f3 f0;refine br _ _ ?_;clear br K3;refine jD (Ai @f9 (bj i (by omega))) ?_;refine ⟨⟨i + 1,by omega,fun _=>hz,?_,rfl,f8,f3,f0,rfl⟩,?_⟩
     ·intro j hj;by_cases e : j = i
      ·rw [e]; exact hg
      ·exact bR j (by omega)
     ·simp only [g9,aF,↓reduceIte];omega
    clear br;refine jS (Ai @g3 (Ai (Gw hz) @g0)) fun K hK=>?_;refine ad (QB i aX _) ?_;rintro r s3 ⟨rfl,rfl⟩;by_cases hf : pd t i
    ·rw [decide_eq_true hf];by_cases hp : i % 2 = 0
     ·have t2 : (il (i : Int) 2 == 0) = true:=(by rw [p6]; exact mr (by omega));simp only [↓DM,bY,DX,Nz,↓DN,Qa,Qb,Qc,Qd,Qe,Qf,Qg,Qh,reduceCtorEq,↓reduceIte,Na,Nb,Nc,Nk,Nf,Ng,Nh,Za,Zb,Zc,TT,lV,t2,g0,JT];refine ad (hmc _ _) ?_;rintro r s4 ⟨rfl,rfl⟩;by_cases hm : dW t ((i / 2 : Nat) : Int)
      ·rw [decide_eq_true hm];refine jN (Ai @lV (Ai @g0 (Ai @ax (Ai @aX (Ai @cz (Ai @iu (Ai @JT @hq3))))))) ?_;refine ad (NQ _) ?_;rintro r s5 ⟨rfl,rfl⟩;by_cases hn : 0≤NI
       ·have ef : ¬ fN t i:=fun k=>by
         have:=(eI.1 k).2 hp hm;exact absurd hn (of_decide_eq_false this)
        refine jV (decide_eq_true hn) hK ?_;clear hK K;refine jE ?_;refine jA ?_;refine jI ?_;rw [NP i aX ef];exact jW ⟨rfl,rfl⟩
       ·have hg : fN t i:=eI.2 ⟨hf,fun _ _=>decide_eq_false hn⟩;refine jV (decide_eq_false hn) hK ?_;clear hK K;refine jF ?_;refine ab ?_;simp only [ar,az,if_true,if_false];exact bX hg _ g9 g8 g3 g0
      ·have hg : fN t i:=eI.2 ⟨hf,fun _ k=>absurd k hm⟩;rw [decide_eq_false hm];refine jR hK ?_;clear hK K;refine jF ?_;refine ab ?_;simp only [ar,az,if_true,if_false];exact bX hg _ g9 g8 g3 g0
     ·have t2 : (il (i : Int) 2 == 0) = false:=(by rw [p6]; exact lU (by omega));have hg : fN t i:=eI.2 ⟨hf,fun k=>absurd k hp⟩;simp only [↓DM,bY,DX,Nz,↓DN,Qa,Qb,Qc,Qd,Qe,Qf,Qg,Qh,reduceCtorEq,↓reduceIte,Na,Nb,Nc,Nk,Nf,Ng,Nh,Za,Zb,Zc,TT,lV,t2];refine hK _ _ ?_;clear hK K;refine jF ?_;refine ab ?_;simp only [ar,az,if_true,if_false];exact bX hg _ g9 g8 g3 g0
    ·have ef : ¬ fN t i:=fun k=>hf k.1;rw [decide_eq_false hf];refine jR hK ?_;clear hK K;refine jE ?_;refine jA ?_;refine jI ?_;rw [NP i aX ef];exact jW ⟨rfl,rfl⟩
  ·refine jB (Ai @g9 (Ai @g8 (Ai @ax (decide_eq_false aX)))) ?_;refine wK fun K2 aV=>?_;refine jF ?_;refine aA ?_;simp only [az,ar,if_true];refine hK _ _ ?_;clear hK aV K2 K;have Kt : ∀ j,j < t.length→fN t j:=fun j h=>bR j (by omega);by_cases hz : aU t = 0
   ·have hp : decide ((0 : Int) < ((aU t : Nat) : Int)) = false:=decide_eq_false (by omega);refine jB (Ai @g3 (Ai (lU (show ¬ ((aU t : Nat) : Int) = 1 by omega)) @hp)) ?_;refine jI ?_;rw [NN hz];exact jW ⟨rfl,rfl⟩
   ·have hp : decide ((0 : Int) < ((aU t : Nat) : Int)) = true:=decide_eq_true (by omega);have fL:=pK hz Kt;by_cases h1 : aU t = 1
    ·have e1:=mr (show ((aU t : Nat) : Int) = 1 by omega);rw [e1] at fL;refine jB (Ai @g3 @e1) ?_;refine jI ?_;rw [fL];exact jW ⟨rfl,rfl⟩
    ·have e1:=lU (show ¬ ((aU t : Nat) : Int) = 1 by omega);rw [e1,Bool.false_or] at fL;have e2 : kA .i64 (aU t : Int) 2 = ((aU t / 2 : Nat) : Int):=eG _ (by omega);have e3 : dC .i64 (aU t : Int) 1 = (((aU t / 2 + (aU t - aU t / 2) : Nat)) : Int) - 1:=(by rw [cf (by omega)]; omega);have hcm:=fun s=>H6 (aU t / 2) (aU t - aU t / 2) (by omega) s;generalize (((aU t / 2 + (aU t - aU t / 2) : Nat)) : Int) - 1 = LL at *
     refine jS (Ai @g3 (Ai @e1 (Ai @hp (Ai @lV (Ai @e2 (Ai @e3 @g0)))))) fun K hK=>?_;refine ad (hcm _) ?_;rintro r s3 ⟨rfl,rfl⟩;refine jR hK ?_;clear hK K;refine jI ?_;rw [fL];exact jW ⟨rfl,rfl⟩
theorem nQ (t : List al) (ht : t.length≤2 ^ 61) (s : AS) : ai prog Γ 20 [aZ t] s (fun r s'=>r = .v (.int .i64 (aU t))∧s' = s):=by
 refine aa func20 rfl ntmps20 results20 (by simp) ?_;unfold aZ;generalize aQ al.cells t = X at *
 refine jA ?_;refine wK fun K hK=>?_;refine jA ?_;refine ag ?_;refine aC (fun E s2=>∃ j : Nat,j≤6∧(∀ k,k < j→t.length≠2 * 2 ^ k - 1)∧E 3 = .v (.int .i64 ((2 ^ j : Nat) : Int))∧E 0 = .sl 5 t.length X .any∧s2 = s)
  (fun E _=>match E 3 with | .v (.int _ i)=>100 - i.toNat | _=>0) ?_ ?_
 ·exact ⟨0,by omega,fun k h=>absurd h (Nat.not_lt_zero _),rfl,rfl,rfl⟩
 ·rintro E1 s2 ⟨j,hj,bR,g3,g0,rfl⟩ -
  refine wK fun K2 aV=>?_;by_cases jZ : j≤5
  ·have hp:=lI jZ;have e1 : iF .i64 2 ((2 ^ j : Nat) : Int) = ((2 * 2 ^ j : Nat) : Int):=ca _ (by omega);have e2 : dC .i64 ((2 * 2 ^ j : Nat) : Int) 1 = ((2 * 2 ^ j - 1 : Nat) : Int):=(by rw [cf (by omega)]; omega);have e3 : iF .i64 ((2 ^ j : Nat) : Int) 2 = ((2 ^ (j + 1) : Nat) : Int):=(by rw [dJ (by omega),Nat.pow_succ]; omega);have h1 : decide (((2 ^ j : Nat) : Int)≤32) = true:=decide_eq_true (by omega);generalize hP : 2 ^ j = P at *
   refine jB (Ai @g3 @h1) ?_;refine jE ?_;refine ab ?_;refine aV _ _ ?_;clear aV K2;refine wK fun K3 br=>?_;refine ag ?_;by_cases he : t.length = 2 * P - 1
   ·refine jB (Ai @g0 (Ai @g3 (Ai @e1 (Ai @e2 (WD he))))) ?_;refine jE ?_;refine jB @g3 ?_;refine jI ?_;rw [Kc (by rw [← hP]; exact NA jZ) he];exact jW ⟨rfl,rfl⟩
   ·refine jB (Ai @g0 (Ai @g3 (Ai @e1 (Ai @e2 (xao he))))) ?_;refine jF ?_;refine ab ?_;simp only [ar,az,if_true,if_false];refine br _ _ ?_;clear br K3;refine jD (Ai @g3 @e3) ?_;refine ⟨⟨j + 1,by omega,?_,rfl,g0,rfl⟩,?_⟩
    ·intro k hk;by_cases e : k = j
     ·rw [e,hP]; exact he
     ·exact bR k (by omega)
    ·have : P < 2 ^ (j + 1):=(by rw [Nat.pow_succ,hP]; omega);simp only [g3,aF,↓reduceIte];omega
  ·obtain rfl : j = 6:=(by omega);have h1 : decide (((2 ^ 6 : Nat) : Int)≤32) = false:=(by decide);refine jB (Ai @g3 @h1) ?_;refine jF ?_;refine aA ?_;simp only [az,ar,if_true];refine hK _ _ ?_;clear hK aV K2 K;refine jA ?_;refine jI ?_;rw [Kd (t:=t) (fun n hn=>by obtain ⟨m,hm,rfl⟩:=hn.pow; exact bR m (by omega))];exact jW ⟨rfl,rfl⟩
theorem eJ (t : List al) (ht : t.length≤2 ^ 61) (i : Int) (s : AS) : ai prog Γ 21 [aZ t,.v (.int .i64 i)] s (fun r s'=>r = .v (.bool (decide (cF t i)))∧s' = s):=by
 refine aa func21 rfl ntmps21 results21 (by simp) ?_;have dw:=fun i (h : i < t.length)=>dm (t:=t) h;unfold aZ;generalize aQ al.cells t = X at *
 have uu : ¬ cF t i→decide (cF t i) = false:=fun h=>decide_eq_false h;refine jA ?_;by_cases h0 : 0≤i
 ·obtain ⟨n,rfl⟩:=Int.eq_ofNat_of_zero_le h0;by_cases h1 : n < t.length
  ·have e1:=ca n (by omega);by_cases h2 : 2 * n < t.length
   ·have iu:=dw (2 * n) h2;have hk : decide (cF t (n : Int)) = ((nd t (2 * n)).kind == 1):=by
     rw [Bool.eq_iff_iff,decide_eq_true_iff,beq_iff_eq];unfold cF;rw [Int.toNat_natCast];exact ⟨fun k=>k.2.2,fun k=>⟨h0,by omega,k⟩⟩
    generalize nd t (2 * n) = N at *
    obtain ⟨k,nm,y,pa,u⟩:=N;unfold al.cells at iu;have cz : (0 : Int)≤((2 * n : Nat) : Int):=(by omega);refine jB (Ai (decide_eq_true h0) (Ai @ax (Ai (decide_eq_true h1) (Ai (decide_eq_true h2) (Ai @e1 (Ai @h2 (Ai @cz @iu))))))) ?_;refine jI ?_;rw [hk];exact jW ⟨rfl,rfl⟩
   ·refine jB (Ai (decide_eq_true h0) (Ai @ax (Ai (decide_eq_true h1) (Ai (decide_eq_false h2) @e1)))) ?_;refine jI ?_;rw [uu (fun k=>by have:=k.2.1; omega)];exact jW ⟨rfl,rfl⟩
  ·refine jB (Ai (decide_eq_true h0) (Ai @ax (decide_eq_false h1))) ?_;refine jI ?_;rw [uu (fun k=>by have:=k.2.1; omega)];exact jW ⟨rfl,rfl⟩
 ·refine jB (decide_eq_false h0) ?_;refine jI ?_;rw [uu (fun k=>h0 k.1)];exact jW ⟨rfl,rfl⟩
theorem Xn {a b : List UInt8} (h : a = b) : (a == b) = true:=by simpa using h
theorem Xo {a b : List UInt8} (h : a≠b) : (a == b) = false:=by simpa using h
theorem xJ (t : List al) (ht : t.length≤2 ^ 61) (a k : Nat) (hak : a + k < 2 ^ 61) (s : AS) : ai prog Γ 66 [aZ t,.v (.int .i64 a),.v (.int .i64 (((a + k : Nat) : Int) - 1))] s (fun r s'=>r = .v (.int .i64 (gD (cF t) a k))∧s' = s):=by
 refine aa func66 rfl ntmps66 results66 (by simp) ?_;have hm:=fun i s=>eJ (Γ:=Γ) t ht i s;unfold aZ at hm ⊢;generalize aQ al.cells t = X at *
 refine jA ?_;refine jA ?_;refine wK fun K hK=>?_;refine jA ?_;refine ag ?_;refine aC (fun E s2=>∃ i : Nat,i≤k∧E 8 = .v (.int .i64 ((a + i : Nat) : Int))∧E 7 = .v (.int .i64 (gD (cF t) a i))∧E 0 = .sl 5 t.length X .any∧E 2 = .v (.int .i64 (((a + k : Nat) : Int) - 1))∧s2 = s)
  (fun E _=>match E 8 with | .v (.int _ i)=>a + k - i.toNat | _=>0) ?_ ?_
 ·exact ⟨0,Nat.zero_le _,rfl,rfl,rfl,rfl,rfl⟩
 ·rintro E1 s2 ⟨i,hi,g8,g7,g0,g2,rfl⟩ -
  refine wK fun K2 aV=>?_;by_cases aX : i < k
  ·have h1 : decide (((a + i : Nat) : Int)≤((a + k : Nat) : Int) - 1) = true:=decide_eq_true (by omega);refine jB (Ai @g8 (Ai @g2 @h1)) ?_;refine jE ?_;refine ab ?_;refine aV _ _ ?_;clear aV K2;refine wK fun K3 br=>?_;refine ag ?_;have bX : ∀ (E : Env),E 8 = .v (.int .i64 ((a + i : Nat) : Int))→E 7 = .v (.int .i64 (gD (cF t) a (i + 1)))→E 0 = .sl 5 t.length X .any→E 2 = .v (.int .i64 (((a + k : Nat) : Int) - 1))→K3 E s2:=by
    intro E f8 f7 f0 f2;refine br _ _ ?_;clear br K3;refine jD (Ai @f8 (bj (a + i) (by omega))) ?_;refine ⟨⟨i + 1,aX,rfl,f7,f0,f2,rfl⟩,?_⟩;simp only [g8,aF,↓reduceIte];omega
   clear br;refine jS (Ai @g0 @g8) fun K hK=>?_;refine ad (hm _ _) ?_;rintro r s3 ⟨rfl,rfl⟩;have hc:=BR (cF t) a i;by_cases hp : cF t ((a + i : Nat) : Int)
   ·rw [decide_eq_true hp];refine jR hK ?_;clear hK K;refine jE ?_;refine jD (Ai @g7 (bj (gD (cF t) a i) (by omega))) ?_;refine bX _ g8 ?_ g0 g2;have : gD (cF t) a (i + 1) = gD (cF t) a i + 1:=(by simp only [gD]; rw [if_pos hp]);rw [this];simp only [aF,Nc,↓reduceIte]
   ·rw [decide_eq_false hp];refine jR hK ?_;clear hK K;refine jF ?_;refine ab ?_;refine bX _ g8 ?_ g0 g2;have : gD (cF t) a (i + 1) = gD (cF t) a i:=(by simp only [gD]; rw [if_neg hp]; omega);rw [this];simp only [aF,g7,Nc,↓reduceIte]
  ·have h1 : decide (((a + i : Nat) : Int)≤((a + k : Nat) : Int) - 1) = false:=decide_eq_false (by omega);refine jB (Ai @g8 (Ai @g2 @h1)) ?_;refine jF ?_;refine aA ?_;simp only [az,ar,if_true];refine hK _ _ ?_;clear hK aV K2 K;obtain rfl : i = k:=(by omega);refine jB @g7 ?_;exact jJ
theorem xK (t : List al) (ht : t.length≤2 ^ 61) (name : List UInt8) (s : AS) : ai prog Γ 64 [aZ t,.v (.string ⟨name.toArray⟩)] s (fun r s'=>r = .v (.int .i64 (qQ t name))∧s' = s):=by
 refine aa func64 rfl ntmps64 results64 (by simp) ?_;have hm:=fun i s=>eJ (Γ:=Γ) t ht i s;have dw:=fun i (h : i < t.length)=>dm (t:=t) h;obtain ⟨Q,hQ⟩ : ∃ Q : Nat→Bool,Q = fun (j : Nat)=>decide (cF t (j : Int)∧(nd t (2 * j)).name = name):=⟨_,rfl⟩;have fL : qQ t name = bZ Q (gE t - 0) 0:=(by rw [hQ]; rfl);unfold aZ at hm ⊢;generalize aQ al.cells t = X at *
 refine jA ?_;refine wK fun K hK=>?_;refine jA ?_;refine ag ?_;refine aC (fun E s2=>∃ i : Nat,i≤2 ^ 61∧bZ Q (gE t - i) i = bZ Q (gE t - 0) 0∧E 5 = .v (.int .i64 i)∧E 0 = .sl 5 t.length X .any∧E 1 = .v (.string ⟨name.toArray⟩)∧s2 = s)
  (fun E _=>match E 5 with | .v (.int _ i)=>gE t - i.toNat | _=>0) ?_ ?_
 ·exact ⟨0,by omega,rfl,rfl,rfl,rfl,rfl⟩
 ·rintro E1 s2 ⟨i,hi,hf,g7,g0,g1,rfl⟩ -
  refine wK fun K2 aV=>?_;by_cases aX : i < gE t
  ·have fu : 2 * i < t.length:=xA.1 aX;refine jB (Ai @g7 (Ai @g0 (Ai (ca i (by omega)) (Ai @ax (decide_eq_true fu))))) ?_;refine jE ?_;refine ab ?_;refine aV _ _ ?_;clear aV K2;refine wK fun K3 br=>?_;refine ag ?_;obtain ⟨k,hk⟩ : ∃ k,gE t - i = k + 1:=⟨gE t - i - 1,by omega⟩;have sr : gE t - (i + 1) = k:=(by omega);rw [hk] at hf;have tV : Q i = decide (cF t i∧(nd t (2 * i)).name = name):=(by rw [hQ]);have bX : ∀ (E : Env),Q i = false→E 5 = .v (.int .i64 i)→E 0 = .sl 5 t.length X .any→E 1 = .v (.string ⟨name.toArray⟩)→K3 E s2:=by
    intro E hq f7 f0 f1;refine br _ _ ?_;clear br K3;refine jD (Ai @f7 (bj i (by omega))) ?_;refine ⟨⟨i + 1,by omega,by rw [sr,← hf,je hq],rfl,f0,f1,rfl⟩,?_⟩;simp only [g7,aF,↓reduceIte];omega
   clear br;have iu:=dw (2 * i) fu;generalize nd t (2 * i) = N at *
   obtain ⟨nk,nm,ny,n8,nu⟩:=N;unfold al.cells at iu;simp only at tV;have cz : (0 : Int)≤((2 * i : Nat) : Int):=(by omega);refine jS (Ai @g0 @g7) fun K hK=>?_;refine ad (hm _ _) ?_;rintro r s3 ⟨rfl,rfl⟩;by_cases hp : cF t (i : Int)
   ·rw [decide_eq_true hp];by_cases hn : nm = name
    ·rw [decide_eq_true ⟨hp,hn⟩] at tV;refine jV (Ai @g0 (Ai @g7 (Ai @g1 (Ai (ca i (by omega)) (Ai @ax (Ai @fu (Ai @cz (Ai @iu (Xn hn))))))))) hK ?_;clear hK K;refine jE ?_;refine jB @g7 ?_;refine jI ?_;rw [fL,← hf,jf tV];exact jW ⟨rfl,rfl⟩
    ·rw [decide_eq_false (fun q=>hn q.2)] at tV;refine jV (Ai @g0 (Ai @g7 (Ai @g1 (Ai (ca i (by omega)) (Ai @ax (Ai @fu (Ai @cz (Ai @iu (Xo hn))))))))) hK ?_;clear hK K;refine jF ?_;refine ab ?_;exact bX _ tV g7 g0 g1
   ·rw [decide_eq_false hp];rw [decide_eq_false (fun q=>hp q.1)] at tV;refine jR hK ?_;clear hK K;refine jF ?_;refine ab ?_;exact bX _ tV g7 g0 g1
  ·have fu : ¬ 2 * i < t.length:=fun h=>aX (xA.2 h);refine jB (Ai @g7 (Ai @g0 (Ai (ca i (by omega)) (Ai @ax (decide_eq_false fu))))) ?_;refine jF ?_;refine aA ?_;simp only [az,ar,if_true];refine hK _ _ ?_;clear hK aV K2 K;rw [show gE t - i = 0 by omega] at hf;refine jA ?_;refine jI ?_;rw [fL,← hf];exact jW ⟨rfl,rfl⟩
end Go.Proofs.YtbiefppedlodiaaGreatDoor
