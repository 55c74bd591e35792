/- Contracts of the program's functions, each walked once; the conditions stand in each theorem. -/
import Derived.Test.YtfjlmkifiihgkaaGreatDoorAMp6
import Derived.Test.YtfjlmkifiihgkaaGreatDoorW1
import Derived.Test.YtfjlmkifiihgkaaGreatDoorAMp5
import Derived.Test.YtfjlmkifiihgkaaGreatDoorAMp4
set_option linter.unusedSimpArgs false
set_option linter.unusedVariables false
open Nat renaming reduceLT → Na, reduceLeDiff → Nb, reduceEqDiff → Nc, reduceAdd → Nk, reduceMul → Nf, reducePow → Ng, reduceSub → Nh, reduceBEq → Nz
open Int renaming reduceLT → Za, reduceLE → Zb, reduceToNat → Zc
open And renaming intro → Ai
open Go.AM renaming ashift → Qa, aconv → Qb, aindexAddr → Qc, aindex → Qd, aslice → Qe, abuiltin → Qf, awp_reg_seq → wS, awp_reg_end → wE, awp_seq_k → wK, awp_cond_k → wC
open Go.AM.AV renaming cells → Qg, one → Qh
set_option maxRecDepth 100000
set_option maxHeartbeats 8000000
set_option autoImplicit false
namespace Go.Proofs.YtfjlmkifiihgkaaGreatDoor
open Go Go.AM Go.Proofs
variable {Γ : Nat→List AV}
theorem int_eq_no {a b : Int} (h : a≠b) : (a == b) = false:=by simpa using h
theorem int_eq_yes {a b : Int} (h : a = b) : (a == b) = true:=by simpa using h
theorem rising_calls (l : List Int) (hl : l.length≤2 ^ 61) (s : AS) : ACalls Tryz.prog Γ 137 [intsV l .any] s (fun r s'=>r = .v (.bool (decide (Rising l)))∧s' = s):=by
 refine acalls_body Tryz.func137 rfl Tryz.ntmps137 Tryz.results137 (by simp) ?_
 unfold intsV
 refine jA ?_
 refine wK fun K hK=>?_
 refine jA ?_
 refine awp_block ?_
 refine awp_loop (fun E s1=>∃ i : Nat,i≤l.length∧E 7 = .v (.int .i64 i)∧E 6 = .v (.int .i64 l.length)∧E 0 = .sl 1 l.length (l.map intC) .any∧E 5 = .sl 1 l.length (l.map intC) .any∧(∀ j,j < i→okAt l j)∧s1 = s)
  (fun E _=>match E 7 with | .v (.int _ i)=>l.length - i.toNat | _=>0) ?_ ?_
 ·exact ⟨0,Nat.zero_le _,by simp [upd],by simp [upd],by simp [upd,initE],by simp [upd,initE],by simp,rfl⟩
 ·rintro E1 s1 ⟨i,hi,h7,h6,h0,h5,hall,rfl⟩ -
  by_cases hi' : i < l.length
  ·refine jB (Ai @h7 (Ai @h6 (Ai @eye_lt_nat (decide_eq_true hi')))) ?_
   refine wK fun K2 hK2=>?_
   refine jE ?_
   refine awp_skip ?_
   refine hK2 _ _ ?_;clear hK2 K2
   refine wK fun K3 hK3=>?_
   refine awp_block ?_
   have hge : (0 : Int)≤(i : Int):=by omega
   have hat:=eat_int hi'
   have hok : (okAt l i)→∀ E2 : Env,E2 7 = .v (.int .i64 i)→E2 6 = .v (.int .i64 l.length)→E2 0 = .sl 1 l.length (l.map intC) .any→E2 5 = .sl 1 l.length (l.map intC) .any→K3 E2 s1:=by
    intro ho E2 g7 g6 g0 g5
    refine hK3 _ _ ?_;clear hK3 K3
    refine jD (Ai @g7 (eye_succ i (by omega))) ?_
    refine ⟨⟨i + 1,by omega,by simp only [upd,↓reduceIte],by simp only [upd,g6,Nc,↓reduceIte],by simp only [upd,g0,Nc,↓reduceIte],by simp only [upd,g5,Nc,↓reduceIte],?_,rfl⟩,?_⟩
    ·intro j hj
     by_cases hji : j < i
     ·exact hall j hji
     ·obtain rfl : j = i:=by omega
      exact ho
    ·simp only [h7,upd,↓reduceIte]
     omega
   clear hK3
   have hbad : ¬ okAt l i→decide (Rising l) = false:=fun h=>decide_eq_false fun hr=>h (hr i hi')
   refine jB (Ai @h7 (Ai @h5 (Ai @hge (Ai @eye_lt_nat (Ai @hi' @hat))))) ?_
   by_cases h1 : l[i] < 0
   ·refine jB (decide_eq_true h1) ?_
    refine jE ?_
    refine jA ?_
    refine awp_ret ?_
    simp only [thenQ,blockQ]
    simp only [retQ,AEnds,aresL,ares,List.toList_toArray,↓upd_same]; try simp only [UP,DF,Nc,↓reduceIte,DT]
    rw [hbad (fun h=>by have:=okAt_get hi' h; omega)]
    exact ⟨_,_,AV.weak.refl _,AS.le.refl _,rfl,rfl⟩
   by_cases h2 : 32≤l[i]
   ·refine jB (Ai (decide_eq_false h1) (decide_eq_true h2)) ?_
    refine jE ?_
    refine jA ?_
    refine awp_ret ?_
    simp only [thenQ,blockQ]
    simp only [retQ,AEnds,aresL,ares,List.toList_toArray,↓upd_same]; try simp only [UP,DF,Nc,↓reduceIte,DT]
    rw [hbad (fun h=>by have:=okAt_get hi' h; omega)]
    exact ⟨_,_,AV.weak.refl _,AS.le.refl _,rfl,rfl⟩
   by_cases h3 : (0 : Int) < (i : Int)
   ·have hj : i - 1 < l.length:=by omega
    have hsub : isub .i64 (i : Int) 1 = ((i - 1 : Nat) : Int):=by rw [isub_i64 (by omega)]; omega
    have hat2:=eat_int hj
    have hge2 : (0 : Int)≤((i - 1 : Nat) : Int):=by omega
    by_cases h4 : l[i]≤l[i - 1]
    ·refine jB (Ai (decide_eq_false h1) (Ai (decide_eq_false h2) (Ai (decide_eq_true h3) (Ai @h0 (Ai @hsub (Ai @hge2 (Ai @eye_lt_nat (Ai @hj (Ai @hat2 (decide_eq_true h4)))))))))) ?_
     refine jE ?_
     refine jA ?_
     refine awp_ret ?_
     simp only [thenQ,blockQ]
     simp only [retQ,AEnds,aresL,ares,List.toList_toArray,↓upd_same]; try simp only [UP,DF,Nc,↓reduceIte,DT]
     rw [hbad (fun h=>by have:=(okAt_get hi' h).2.2 (by omega); omega)]
     exact ⟨_,_,AV.weak.refl _,AS.le.refl _,rfl,rfl⟩
    ·refine jB (Ai (decide_eq_false h1) (Ai (decide_eq_false h2) (Ai (decide_eq_true h3) (Ai @h0 (Ai @hsub (Ai @hge2 (Ai @eye_lt_nat (Ai @hj (Ai @hat2 (decide_eq_false h4)))))))))) ?_
     refine jF ?_
     refine awp_skip ?_
     simp only [blockQ,thenQ,if_true,if_false]
     exact hok (okAt_of hi' (by omega) (by omega) (fun _=>by omega)) _ (by simp only [upd,h7,Nc,↓reduceIte]) (by simp only [upd,h6,Nc,↓reduceIte]) (by simp only [upd,h0,Nc,↓reduceIte]) (by simp only [upd,h5,Nc,↓reduceIte])
   ·refine jB (Ai (decide_eq_false h1) (Ai (decide_eq_false h2) (decide_eq_false h3))) ?_
    refine jF ?_
    refine awp_skip ?_
    simp only [blockQ,thenQ,if_true,if_false]
    exact hok (okAt_of hi' (by omega) (by omega) (fun q=>by omega)) _ (by simp only [upd,h7,Nc,↓reduceIte]) (by simp only [upd,h6,Nc,↓reduceIte]) (by simp only [upd,h0,Nc,↓reduceIte]) (by simp only [upd,h5,Nc,↓reduceIte])
  ·refine jB (Ai @h7 (Ai @h6 (Ai @eye_lt_nat (decide_eq_false hi')))) ?_
   refine wK fun K2 hK2=>?_
   refine jF ?_
   refine awp_exit ?_
   simp only [thenQ,blockQ,if_true]
   refine hK _ _ ?_;clear hK hK2 K K2
   refine jA ?_
   refine jI ?_
   refine ⟨_,_,AV.weak.refl _,AS.le.refl _,?_,rfl⟩
   rw [decide_eq_true (show Rising l from fun j hj=>hall j (by omega))]
theorem held_calls (N : NodeV) (s : AS) : ACalls Tryz.prog Γ 136 [.agg N.cells] s (fun r s'=>r = .v (.bool (decide N.held))∧s' = s):=by
 refine acalls_body Tryz.func136 rfl Tryz.ntmps136 Tryz.results136 (by simp) ?_
 unfold NodeV.cells
 obtain ⟨k,m,y,p,u⟩:=N
 refine awp_reg_frz 1 (by simp [dsts]) ?_
 intro K hK
 simp only [↓DM,pval,DX,Nz,↓DN,Qa,Qb,Qc,Qd,Qe,Qf,Qg,Qh,reduceCtorEq,↓reduceIte,Na,Nb,Nc,Nk,Nf,Ng,Nh,Za,Zb,Zc,TT,intsV]
 intro o ho
 refine hK _ _ o _ (by simp only [upd,Nc,↓reduceIte]) ho ?_
 clear hK K ho
 have hr : ∀ b,(NodeV.held ⟨k,m,y,p,u⟩↔b = true)→decide (NodeV.held ⟨k,m,y,p,u⟩) = b:=by
  intro b h
  cases b
  ·exact decide_eq_false (fun h2=>by have:=h.1 h2; cases this)
  ·exact decide_eq_true (h.2 rfl)
 by_cases h1 : 2≤(y : Int)∧(y : Int)≤2305843009213693949
 ·have hd : (decide (2≤(y : Int)) && decide ((y : Int)≤2305843009213693949)) = true:=by simp; omega
  by_cases h2 : p.length = 0
  ·refine jQ fun K hK=>?_
   refine acallk (powerRight_calls y s) ?_
   rintro r s' ⟨rfl,rfl⟩
   rw [hd]
   refine jV (Ai @h2 (show (((0 : Nat) : Int) == 0) = true from rfl)) hK ?_;clear hK K
   refine jI ?_
   rw [hr true ⟨fun _=>rfl,fun _=>⟨by simp only; omega,by simp only; omega,.inl h2⟩⟩]
   exact ⟨_,_,AV.weak.refl _,AS.le.refl _,rfl,rfl⟩
  ·by_cases h3 : p.length = 32
   ·refine jQ fun K hK=>?_
    refine acallk (powerRight_calls y s) ?_
    rintro r s' ⟨rfl,rfl⟩
    rw [hd]
    refine jV (Ai @h3 (Ai (show (((32 : Nat) : Int) == 0) = false from rfl) (show (((32 : Nat) : Int) == 32) = true from rfl))) hK ?_;clear hK K
    refine jI ?_
    rw [hr true ⟨fun _=>rfl,fun _=>⟨by simp only; omega,by simp only; omega,.inr h3⟩⟩]
    exact ⟨_,_,AV.weak.refl _,AS.le.refl _,rfl,rfl⟩
   ·refine jQ fun K hK=>?_
    refine acallk (powerRight_calls y s) ?_
    rintro r s' ⟨rfl,rfl⟩
    rw [hd]
    refine jV (Ai (int_eq_no (show (p.length : Int)≠0 by omega)) (int_eq_no (show (p.length : Int)≠32 by omega))) hK ?_;clear hK K
    refine jI ?_
    rw [hr false ⟨fun h=>by have:=h.2.2; simp only at this; omega,fun h=>by cases h⟩]
    exact ⟨_,_,AV.weak.refl _,AS.le.refl _,rfl,rfl⟩
 ·have hd : (decide (2≤(y : Int)) && decide ((y : Int)≤2305843009213693949)) = false:=by simp; omega
  refine jQ fun K hK=>?_
  refine acallk (powerRight_calls y s) ?_
  rintro r s' ⟨rfl,rfl⟩
  rw [hd]
  refine jR hK ?_;clear hK K
  refine jI ?_
  rw [hr false ⟨fun h=>by have:=h.1; have:=h.2.1; simp only at *; omega,fun h=>by cases h⟩]
  exact ⟨_,_,AV.weak.refl _,AS.le.refl _,rfl,rfl⟩
theorem noughtN_weak : (AV.agg [.v (.int .i64 0),.v (.slice none 0 0),.v (.int .u64 0),.v (.slice none 0 0),.v (.slice none 0 0)]).weak (.agg NodeV.nought.cells) :=
 AV.weak_agg (.cons (AV.weak.refl _) (.cons AV.weak_nil (.cons (AV.weak.refl _) (.cons AV.weak_nil (.cons AV.weak_nil .nil)))))
theorem nodeRight_calls (N : NodeV) (hl : N.unm.length≤2 ^ 61) (s : AS) : ACalls Tryz.prog Γ 57 [.agg N.cells] s (fun r s'=>r = .v (.bool (decide N.right))∧s' = s):=by
 refine acalls_body Tryz.func57 rfl Tryz.ntmps57 Tryz.results57 (by simp) ?_
 unfold NodeV.cells
 obtain ⟨k,m,y,p,u⟩:=N
 refine awp_reg_frz 1 (by simp [dsts]) ?_
 intro K hK
 simp only [↓DM,pval,DX,Nz,↓DN,Qa,Qb,Qc,Qd,Qe,Qf,Qg,Qh,reduceCtorEq,↓reduceIte,Na,Nb,Nc,Nk,Nf,Ng,Nh,Za,Zb,Zc,TT,intsV]
 intro o ho
 refine hK _ _ o _ (by simp only [upd,Nc,↓reduceIte]) ho ?_
 clear hK K ho
 have hrt : ∀ b,(NodeV.right ⟨k,m,y,p,u⟩↔b = true)→decide (NodeV.right ⟨k,m,y,p,u⟩) = b:=by
  intro b h
  cases b
  ·exact decide_eq_false (fun h2=>by have:=h.1 h2; cases this)
  ·exact decide_eq_true (h.2 rfl)
 refine wK fun K hK=>?_
 refine jA ?_
 refine awp_block ?_
 by_cases h0 : k = 0
 ·refine jB (int_eq_yes h0) ?_
  refine jE ?_
  refine jS @intsV.eq_1 fun K hK=>?_
  refine acallk (ACalls.weaks (.cons (AV.weak.refl _) (.cons noughtN_weak .nil)) (nodeSame_calls ⟨k,m,y,p,u⟩ NodeV.nought hl s)) ?_
  rintro r s' ⟨rfl,rfl⟩
  refine jR hK ?_;clear hK K
  refine awp_ret ?_
  simp only [thenQ,blockQ]
  simp only [retQ,AEnds,aresL,ares,List.toList_toArray,↓upd_same]; try simp only [UP,DF,Nc,↓reduceIte,DT]
  refine ⟨_,_,AV.weak.refl _,AS.le.refl _,?_,rfl⟩
  rw [hrt _ ((right_zero (N:=⟨k,m,y,p,u⟩) h0).trans decide_eq_true_iff.symm)]
 by_cases h1 : k = 1
 ·have hri:=right_one (N:=⟨k,m,y,p,u⟩) h1
  simp only at hri
  rcases ff4 (decide (1≤(m.length : Int))) (decide ((m.length : Int)≤16)) (decide (NodeV.held ⟨k,m,y,p,u⟩)) ((u.length : Int) == 0) with hd | hd | hd | hd | hd
  case inl | inr.inl =>
   refine jB (int_eq_no h0) ?_
   refine jF ?_
   refine jB (int_eq_yes h1) ?_
   refine jE ?_
   refine jB (Ai @hd @intsV.eq_1) ?_
   refine awp_ret ?_
   simp only [thenQ,blockQ]
   simp only [retQ,AEnds,aresL,ares,List.toList_toArray,↓upd_same]; try simp only [UP,DF,Nc,↓reduceIte,DT]
   refine ⟨_,_,AV.weak.refl _,AS.le.refl _,?_,rfl⟩
   simp only [decide_eq_true_eq,decide_eq_false_iff_not,beq_iff_eq] at hd
   rw [hrt false ⟨fun h=>by have:=hri.1 h; omega,fun h=>by cases h⟩]
  all_goals
   refine jB (int_eq_no h0) ?_
   refine jF ?_
   refine jB (int_eq_yes h1) ?_
   refine jE ?_
   refine jS (Ai @hd @intsV.eq_1) fun K hK=>?_
   refine acallk (held_calls ⟨k,m,y,p,u⟩ s) ?_
   rintro r s' ⟨rfl,rfl⟩
   refine jV (Ai @hd @intsV.eq_1) hK ?_;clear hK K
   refine awp_ret ?_
   simp only [thenQ,blockQ]
   simp only [retQ,AEnds,aresL,ares,List.toList_toArray,↓upd_same]; try simp only [UP,DF,Nc,↓reduceIte,DT]
   refine ⟨_,_,AV.weak.refl _,AS.le.refl _,?_,rfl⟩
   simp only [decide_eq_true_eq,decide_eq_false_iff_not,beq_iff_eq,beq_eq_false_iff_ne] at hd
  ·rw [hrt false ⟨fun h=>absurd (hri.1 h).2.2.1 hd.2.2,fun h=>by cases h⟩]
  ·rw [hrt false ⟨fun h=>by have:=(hri.1 h).2.2.2; omega,fun h=>by cases h⟩]
  ·rw [hrt true ⟨fun _=>rfl,fun _=>hri.2 ⟨by omega,by omega,hd.2.2.1,by omega⟩⟩]
 by_cases h2 : k = 2
 ·have hri:=right_two (N:=⟨k,m,y,p,u⟩) h2
  simp only at hri hl
  rcases ff3 ((m.length : Int) == 0) (decide (NodeV.held ⟨k,m,y,p,u⟩)) (decide (Rising u)) with hd | hd | hd | hd
  all_goals
   refine jB (int_eq_no h0) ?_
   refine jF ?_
   refine jB (int_eq_no h1) ?_
   refine jF ?_
   refine jB (int_eq_yes h2) ?_
   refine jE ?_
  ·refine jB (Ai @hd @intsV.eq_1) ?_
   refine awp_ret ?_
   simp only [thenQ,blockQ]
   simp only [retQ,AEnds,aresL,ares,List.toList_toArray,↓upd_same]; try simp only [UP,DF,Nc,↓reduceIte,DT]
   refine ⟨_,_,AV.weak.refl _,AS.le.refl _,?_,rfl⟩
   simp only [beq_eq_false_iff_ne] at hd
   rw [hrt false ⟨fun h=>by have:=(hri.1 h).1; omega,fun h=>by cases h⟩]
  ·refine jS (Ai @hd @intsV.eq_1) fun K hK=>?_
   refine acallk (held_calls ⟨k,m,y,p,u⟩ s) ?_
   rintro r s' ⟨rfl,rfl⟩
   refine jV (Ai @hd @intsV.eq_1) hK ?_;clear hK K
   refine awp_ret ?_
   simp only [thenQ,blockQ]
   simp only [retQ,AEnds,aresL,ares,List.toList_toArray,↓upd_same]; try simp only [UP,DF,Nc,↓reduceIte,DT]
   refine ⟨_,_,AV.weak.refl _,AS.le.refl _,?_,rfl⟩
   simp only [decide_eq_false_iff_not] at hd
   rw [hrt false ⟨fun h=>absurd (hri.1 h).2.1 hd.2,fun h=>by cases h⟩]
  all_goals
   refine jS (Ai @hd @intsV.eq_1) fun K hK=>?_
   refine acallk (held_calls ⟨k,m,y,p,u⟩ s) ?_
   rintro r s' ⟨rfl,rfl⟩
   simp only [↓DM,pval,DX,Nz,↓DN,Qa,Qb,Qc,Qd,Qe,Qf,Qg,Qh,reduceCtorEq,↓reduceIte,Na,Nb,Nc,Nk,Nf,Ng,Nh,Za,Zb,Zc,TT,hd,intsV]
   refine acallk (rising_calls u hl _) ?_
   rintro r s' ⟨rfl,rfl⟩
   refine jV (Ai @hd @intsV.eq_1) hK ?_;clear hK K
   refine awp_ret ?_
   simp only [thenQ,blockQ]
   simp only [retQ,AEnds,aresL,ares,List.toList_toArray,↓upd_same]; try simp only [UP,DF,Nc,↓reduceIte,DT]
   refine ⟨_,_,AV.weak.refl _,AS.le.refl _,?_,rfl⟩
   simp only [decide_eq_true_eq,decide_eq_false_iff_not,beq_iff_eq] at hd
  ·rw [hrt false ⟨fun h=>absurd (hri.1 h).2.2 hd.2.2,fun h=>by cases h⟩]
  ·rw [hrt true ⟨fun _=>rfl,fun _=>hri.2 ⟨by omega,hd.2.1,hd.2.2⟩⟩]
 ·refine jB (int_eq_no h0) ?_
  refine jF ?_
  refine jB (int_eq_no h1) ?_
  refine jF ?_
  refine jB (int_eq_no h2) ?_
  refine jF ?_
  refine awp_skip ?_
  simp only [blockQ,thenQ,if_true,if_false]
  refine hK _ _ ?_;clear hK K
  refine jA ?_
  refine jI ?_
  refine ⟨_,_,AV.weak.refl _,AS.le.refl _,?_,rfl⟩
  rw [hrt false ⟨fun h=>absurd h (right_else (N:=⟨k,m,y,p,u⟩) h0 h1 h2),fun h=>by cases h⟩]
end Go.Proofs.YtfjlmkifiihgkaaGreatDoor
namespace Go.Proofs.YtfjlmkifiihgkaaGreatDoor
open Go Go.AM Go.Proofs
variable {Γ : Nat→List AV}
theorem IBuf.one {s0 s : AS} {x : AV} {l : List Int} (h : IBuf s0 s x l) : x.one = true:=by
  rcases h with ⟨rfl,rfl⟩ | ⟨t,e,rfl,_,_⟩
  · rfl
  · rfl
end Go.Proofs.YtfjlmkifiihgkaaGreatDoor
namespace Go.AM
open Go
structure PartV where
  kind : Int
  n : Int
  b : List UInt8
def PartV.cells (p : PartV) : List AV:=[.v (.int .i64 p.kind),.v (.int .i64 p.n),bytesV p.b .any]
def partsC (ps : List PartV) : List AV:=(ps.map PartV.cells).flatten
theorem IsTy.parts {avs : List AV} (h : IsTy (.slice 3 (.struct (.cons tyI (.cons tyI (.cons tyB .nil))))) avs) : ∃ ps : List PartV,avs = [.sl 3 ps.length (partsC ps) .any]:=by
  obtain ⟨els,rfl,_,hall⟩:=IsTy.rows h
  have key : ∀ els : List (List AV),(∀ el ∈ els,el.length = 3∧IsTy (.struct (.cons tyI (.cons tyI (.cons tyB .nil)))) el)→∃ ps : List PartV,els = ps.map PartV.cells:=by
    intro els
    induction els with
    | nil=>intro _; exact ⟨[],rfl⟩
    | cons e els ih =>
      intro h
      obtain ⟨ps,rfl⟩:=ih (fun el hel=>h el (by simp [hel]))
      obtain ⟨_,h1⟩:=h e (by simp)
      obtain ⟨x1,y1,rfl,t1,h1⟩:=isF_cons (isTy_struct h1)
      obtain ⟨x2,y2,rfl,t2,h1⟩:=isF_cons h1
      obtain ⟨x3,y3,rfl,t3,h1⟩:=isF_cons h1
      obtain rfl:=isF_nil h1
      obtain ⟨n1,rfl,_⟩:=isTy_int t1
      obtain ⟨n2,rfl,_⟩:=isTy_int t2
      obtain ⟨l3,rfl,_⟩:=t3.bytes
      exact ⟨⟨n1,n2,l3⟩ :: ps,rfl⟩
  obtain ⟨ps,rfl⟩:=key els hall
  exact ⟨ps,by simp [partsC]⟩
end Go.AM
namespace Go.AM
open Go
def rowC {α : Type} (c : α→List AV) (l : List α) : List AV:=(l.map c).flatten
theorem row_at {α : Type} {c : α→List AV} {k : Nat} (hk : ∀ a,(c a).length = k) {l : List α} {i : Nat} (h : i < l.length) : List.take k (List.drop (i * k) (rowC c l)) = c l[i]:=by
  have:=flatten_at (sz:=k) (els:=l.map c) (i:=i) (by simpa using h) (by
    intro el hel
    obtain ⟨p,_,rfl⟩:=List.mem_map.1 hel
    exact hk p)
  unfold rowC
  rw [this]
  simp
theorem row_len {α : Type} {c : α→List AV} {k : Nat} (hk : ∀ a,(c a).length = k) (l : List α) : (rowC c l).length = l.length * k:=by
  induction l with
  | nil=>simp [rowC]
  | cons a l ih =>
    have : rowC c (a :: l) = c a ++ rowC c l:=rfl
    rw [this,List.length_append,ih,hk,List.length_cons,Nat.succ_mul,Nat.add_comm]
theorem row_snoc {α : Type} {c : α→List AV} (l : List α) (a : α) : rowC c (l ++ [a]) = rowC c l ++ c a:=by simp [rowC]
theorem IsTy.row {α : Type} {c : α→List AV} {ty : Ty} {k : Nat} {Q : α→Prop} (hel : ∀ el,IsTy ty el→∃ a,el = c a∧Q a) {avs : List AV} (h : IsTy (.slice k ty) avs) :
    ∃ l : List α,avs = [.sl k l.length (rowC c l) .any]∧(∀ a ∈ l,Q a)∧l.length≤maxLen:=by
  obtain ⟨els,rfl,hlen,hall⟩:=IsTy.rows h
  have key : ∀ els : List (List AV),(∀ el ∈ els,el.length = k∧IsTy ty el)→∃ l : List α,els = l.map c∧∀ a ∈ l,Q a:=by
    intro els
    induction els with
    | nil=>intro _; exact ⟨[],rfl,by simp⟩
    | cons e els ih =>
      intro h
      obtain ⟨l,rfl,hl⟩:=ih (fun el hel=>h el (by simp [hel]))
      obtain ⟨_,h1⟩:=h e (by simp)
      obtain ⟨a,rfl,ha⟩:=hel e h1
      refine ⟨a :: l,rfl,?_⟩
      intro b hb
      rcases List.mem_cons.1 hb with rfl | hb
      · exact ha
      · exact hl b hb
  obtain ⟨l,rfl,hl⟩:=key els hall
  exact ⟨l,by simp [rowC],hl,by simpa using hlen⟩
def Pub (n : Nat) : Prop:=2≤n∧n≤2305843009213693949
instance (n : Nat) : Decidable (Pub n):=by unfold Pub; infer_instance
structure PropV where
  kind : Int
  leaf : Int
  name : List UInt8
  key : Nat
  init : Nat
  deriving DecidableEq
structure SealV where
  frm : Nat
  text : List UInt8
  deriving DecidableEq
structure StepV where
  key : Nat
  seals : List SealV
  deriving DecidableEq
structure PathV where
  key : Nat
  parent : List UInt8
  steps : List StepV
  deriving DecidableEq
structure CommitV where
  group : List UInt8
  epoch : Int
  sender : Int
  props : List PropV
  hasPath : Bool
  path : PathV
  confirm : List UInt8
  member : List UInt8
  deriving DecidableEq
def PropV.cells (p : PropV) : List AV:=[.v (.int .i64 p.kind),.v (.int .i64 p.leaf),bytesV p.name .any,.v (.int .u64 p.key),.v (.int .u64 p.init)]
def SealV.cells (p : SealV) : List AV:=[.v (.int .u64 p.frm),bytesV p.text .any]
def StepV.cells (p : StepV) : List AV:=[.v (.int .u64 p.key),.sl 2 p.seals.length (rowC SealV.cells p.seals) .any]
def PathV.cells (p : PathV) : List AV:=[.v (.int .u64 p.key),bytesV p.parent .any,.sl 2 p.steps.length (rowC StepV.cells p.steps) .any]
def CommitV.cells (c : CommitV) : List AV :=
  [bytesV c.group .any,.v (.int .i64 c.epoch),.v (.int .i64 c.sender),.sl 5 c.props.length (rowC PropV.cells c.props) .any,.v (.bool c.hasPath),
   .v (.int .u64 c.path.key),bytesV c.path.parent .any,.sl 2 c.path.steps.length (rowC StepV.cells c.path.steps) .any,bytesV c.confirm .any,bytesV c.member .any]
def PropV.wf (p : PropV) : Prop:=p.key < 2 ^ 64∧p.init < 2 ^ 64
def SealV.wf (p : SealV) : Prop:=p.frm < 2 ^ 64
def StepV.wf (p : StepV) : Prop:=p.key < 2 ^ 64∧(∀ x ∈ p.seals,x.wf)∧p.seals.length≤maxLen
def PathV.wf (p : PathV) : Prop:=p.key < 2 ^ 64∧(∀ x ∈ p.steps,x.wf)∧p.steps.length≤maxLen
def CommitV.wf (c : CommitV) : Prop:=(∀ x ∈ c.props,x.wf)∧c.path.wf∧c.props.length≤maxLen
abbrev tyU : Ty:=.int .u64
abbrev tyProp : Ty:=.struct (.cons tyI (.cons tyI (.cons tyB (.cons tyU (.cons tyU .nil)))))
abbrev tySeal : Ty:=.struct (.cons tyU (.cons tyB .nil))
abbrev tyStep : Ty:=.struct (.cons tyU (.cons (.slice 2 tySeal) .nil))
abbrev tyPath : Ty:=.struct (.cons tyU (.cons tyB (.cons (.slice 2 tyStep) .nil)))
abbrev tyCommit : Ty:=.struct (.cons tyB (.cons tyI (.cons tyI (.cons (.slice 5 tyProp) (.cons .bool (.cons tyPath (.cons tyB (.cons tyB .nil))))))))
theorem isTy_u64 {x : List AV} (h : IsTy tyU x) : ∃ n : Nat,x = [.v (.int .u64 n)]∧n < 2 ^ 64:=by
  obtain ⟨a,rfl,ha⟩:=isTy_int h
  obtain ⟨n,rfl,hn⟩:=nat_u64 ha
  exact ⟨n,rfl,hn⟩
theorem IsTy.prop {x : List AV} (h : IsTy tyProp x) : ∃ p : PropV,x = p.cells∧p.wf:=by
  obtain ⟨x1,y1,rfl,t1,h⟩:=isF_cons (isTy_struct h)
  obtain ⟨x2,y2,rfl,t2,h⟩:=isF_cons h
  obtain ⟨x3,y3,rfl,t3,h⟩:=isF_cons h
  obtain ⟨x4,y4,rfl,t4,h⟩:=isF_cons h
  obtain ⟨x5,y5,rfl,t5,h⟩:=isF_cons h
  obtain rfl:=isF_nil h
  obtain ⟨n1,rfl,_⟩:=isTy_int t1
  obtain ⟨n2,rfl,_⟩:=isTy_int t2
  obtain ⟨l3,rfl,_⟩:=t3.bytes
  obtain ⟨n4,rfl,h4⟩:=isTy_u64 t4
  obtain ⟨n5,rfl,h5⟩:=isTy_u64 t5
  exact ⟨⟨n1,n2,l3,n4,n5⟩,rfl,h4,h5⟩
theorem IsTy.sealV {x : List AV} (h : IsTy tySeal x) : ∃ p : SealV,x = p.cells∧p.wf:=by
  obtain ⟨x1,y1,rfl,t1,h⟩:=isF_cons (isTy_struct h)
  obtain ⟨x2,y2,rfl,t2,h⟩:=isF_cons h
  obtain rfl:=isF_nil h
  obtain ⟨n1,rfl,h1⟩:=isTy_u64 t1
  obtain ⟨l2,rfl,_⟩:=t2.bytes
  exact ⟨⟨n1,l2⟩,rfl,h1⟩
theorem IsTy.stepV {x : List AV} (h : IsTy tyStep x) : ∃ p : StepV,x = p.cells∧p.wf:=by
  obtain ⟨x1,y1,rfl,t1,h⟩:=isF_cons (isTy_struct h)
  obtain ⟨x2,y2,rfl,t2,h⟩:=isF_cons h
  obtain rfl:=isF_nil h
  obtain ⟨n1,rfl,h1⟩:=isTy_u64 t1
  obtain ⟨l,rfl,hl,hm⟩:=IsTy.row (c:=SealV.cells) (Q:=SealV.wf) (fun el h=>IsTy.sealV h) t2
  exact ⟨⟨n1,l⟩,rfl,h1,hl,hm⟩
theorem IsTy.pathV {x : List AV} (h : IsTy tyPath x) : ∃ p : PathV,x = p.cells∧p.wf:=by
  obtain ⟨x1,y1,rfl,t1,h⟩:=isF_cons (isTy_struct h)
  obtain ⟨x2,y2,rfl,t2,h⟩:=isF_cons h
  obtain ⟨x3,y3,rfl,t3,h⟩:=isF_cons h
  obtain rfl:=isF_nil h
  obtain ⟨n1,rfl,h1⟩:=isTy_u64 t1
  obtain ⟨l2,rfl,_⟩:=t2.bytes
  obtain ⟨l,rfl,hl,hm⟩:=IsTy.row (c:=StepV.cells) (Q:=StepV.wf) (fun el h=>IsTy.stepV h) t3
  exact ⟨⟨n1,l2,l⟩,rfl,h1,hl,hm⟩
theorem IsTy.commit {x : List AV} (h : IsTy tyCommit x) : ∃ c : CommitV,x = c.cells∧c.wf:=by
  obtain ⟨x1,y1,rfl,t1,h⟩:=isF_cons (isTy_struct h)
  obtain ⟨x2,y2,rfl,t2,h⟩:=isF_cons h
  obtain ⟨x3,y3,rfl,t3,h⟩:=isF_cons h
  obtain ⟨x4,y4,rfl,t4,h⟩:=isF_cons h
  obtain ⟨x5,y5,rfl,t5,h⟩:=isF_cons h
  obtain ⟨x6,y6,rfl,t6,h⟩:=isF_cons h
  obtain ⟨x7,y7,rfl,t7,h⟩:=isF_cons h
  obtain ⟨x8,y8,rfl,t8,h⟩:=isF_cons h
  obtain rfl:=isF_nil h
  obtain ⟨l1,rfl,_⟩:=t1.bytes
  obtain ⟨n2,rfl,_⟩:=isTy_int t2
  obtain ⟨n3,rfl,_⟩:=isTy_int t3
  obtain ⟨l4,rfl,h4,m4⟩:=IsTy.row (c:=PropV.cells) (Q:=PropV.wf) (fun el h=>IsTy.prop h) t4
  obtain ⟨b5,rfl⟩ : ∃ b,x5 = [.v (.bool b)]:=t5
  obtain ⟨p6,rfl,h6⟩:=IsTy.pathV t6
  obtain ⟨l7,rfl,_⟩:=t7.bytes
  obtain ⟨l8,rfl,_⟩:=t8.bytes
  exact ⟨⟨l1,n2,n3,l4,b5,p6,l7,l8⟩,rfl,h4,h6,m4⟩
def PropV.right (p : PropV) : Prop :=
  (p.kind = 1∧p.leaf = 0∧1≤p.name.length∧p.name.length≤16∧Pub p.key∧Pub p.init) ∨
  (p.kind = 2∧0≤p.leaf∧p.leaf < 32∧p.name.length = 0∧Pub p.key∧p.init = 0) ∨
  (p.kind = 3∧0≤p.leaf∧p.leaf < 32∧p.name.length = 0∧p.key = 0∧p.init = 0)
def SealV.right (p : SealV) : Prop:=Pub p.frm∧p.text.length = 48
def StepV.right (p : StepV) : Prop:=(∀ x ∈ p.seals,x.right)∧Pub p.key∧p.seals.length≤32
def PathV.right (p : PathV) : Prop:=(∀ x ∈ p.steps,x.right)∧Pub p.key∧(p.parent.length = 0∨p.parent.length = 32)∧p.steps.length≤5
def PathV.none (p : PathV) : Prop:=p.key = 0∧p.parent.length = 0∧p.steps.length = 0
def CommitV.pathed (c : CommitV) : Prop:=(c.hasPath = true→c.path.right)∧(c.hasPath = false→c.path.none)
def CommitV.right (c : CommitV) : Prop :=
  (∀ x ∈ c.props,x.right)∧(1≤c.group.length∧c.group.length≤16)∧(0≤c.epoch∧c.epoch≤1048576)∧(0≤c.sender∧c.sender < 32)∧c.props.length≤16∧c.pathed∧c.confirm.length = 32∧c.member.length = 32
instance (p : PropV) : Decidable p.right:=by unfold PropV.right; infer_instance
instance (p : SealV) : Decidable p.right:=by unfold SealV.right; infer_instance
instance (p : StepV) : Decidable p.right:=by unfold StepV.right; infer_instance
instance (p : PathV) : Decidable p.right:=by unfold PathV.right; infer_instance
instance (p : PathV) : Decidable p.none:=by unfold PathV.none; infer_instance
instance (c : CommitV) : Decidable c.pathed:=by unfold CommitV.pathed; infer_instance
instance (c : CommitV) : Decidable c.right:=by unfold CommitV.right; infer_instance
end Go.AM
namespace Go.AM
open Go
def treeV (t : List NodeV) : AV:=.sl 5 t.length (rowC NodeV.cells t) .any
def TreeW (t : List NodeV) : Prop:=t.length≤2 ^ 61∧∀ n ∈ t,n.unm.length≤2 ^ 61∧n.key < 2 ^ 64
def nd (t : List NodeV) (i : Nat) : NodeV:=t.getD i NodeV.nought
theorem nd_get {t : List NodeV} {i : Nat} (h : i < t.length) : nd t i = t[i]:=by simp [nd,List.getD,h]
theorem TreeW.nd {t : List NodeV} (h : TreeW t) (i : Nat) : (nd t i).unm.length≤2 ^ 61∧(nd t i).key < 2 ^ 64:=by
  by_cases hi : i < t.length
  · rw [nd_get hi]; exact h.2 _ (List.getElem_mem hi)
  · have : Go.AM.nd t i = NodeV.nought:=by simp [Go.AM.nd,List.getD,show t.length≤i by omega]
    rw [this]
    exact ⟨by decide,by decide⟩
theorem node_at {t : List NodeV} {i : Nat} (h : i < t.length) : List.take 5 (List.drop (i * 5) (rowC NodeV.cells t)) = (nd t i).cells:=by
  rw [nd_get h]
  exact row_at (k:=5) (fun _=>rfl) h
def lvs (t : List NodeV) : Nat:=if Fit ((t.length + 1) / 2)∧t.length = 2 * ((t.length + 1) / 2) - 1 then (t.length + 1) / 2 else 0
theorem lvs_zero_or {t : List NodeV} : lvs t = 0∨(Fit (lvs t)∧t.length = 2 * lvs t - 1):=by
  unfold lvs
  split
  · rename_i h; exact .inr h
  · exact .inl rfl
theorem lvs_le (t : List NodeV) : lvs t≤32:=by
  rcases lvs_zero_or (t:=t) with h | h
  · omega
  · exact h.1.le.2
theorem lvs_lt {t : List NodeV} {i : Nat} (h : i < lvs t) : 2 * i < t.length:=by
  rcases lvs_zero_or (t:=t) with h0 | h0
  · omega
  · omega
def memI (t : List NodeV) (i : Int) : Prop:=0≤i∧i < (lvs t : Int)∧(nd t (2 * i.toNat)).kind = 1
instance (t : List NodeV) (i : Int) : Decidable (memI t i):=by unfold memI; infer_instance
def memR (t : List NodeV) (i : Int) : Prop:=0≤i∧2 * i < (t.length : Int)∧(nd t (2 * i.toNat)).kind = 1
instance (t : List NodeV) (i : Int) : Decidable (memR t i):=by unfold memR; infer_instance
theorem memR_iff {t : List NodeV} (h : lvs t≠0) (i : Int) : memR t i↔memI t i:=by
  rcases lvs_zero_or (t:=t) with h0 | h0
  · exact absurd h0 h
  · have:=h0.1.le
    unfold memR memI
    constructor <;> (rintro ⟨a,b,c⟩; exact ⟨a,by omega,c⟩)
def cntN (P : Int→Prop) [DecidablePred P] (a : Nat) : Nat→Nat
  | 0=>0
  | k + 1=>cntN P a k + if P ((a + k : Nat) : Int) then 1 else 0
theorem cntN_le (P : Int→Prop) [DecidablePred P] (a : Nat) : ∀ k,cntN P a k≤k
  | 0=>Nat.le_refl _
  | k + 1=>by
    have:=cntN_le P a k
    simp only [cntN]
    split <;> omega
theorem cntN_pos {P : Int→Prop} [DecidablePred P] {a : Nat} : ∀ {k},0 < cntN P a k↔∃ j,j < k∧P ((a + j : Nat) : Int)
  | 0=>by simp [cntN]
  | k + 1=>by
    simp only [cntN]
    constructor
    · intro h
      by_cases hp : P ((a + k : Nat) : Int)
      · exact ⟨k,by omega,hp⟩
      · rw [if_neg hp] at h
        obtain ⟨j,h1,h2⟩:=(cntN_pos (k:=k)).1 (by omega)
        exact ⟨j,by omega,h2⟩
    · rintro ⟨j,h1,h2⟩
      by_cases e : j = k
      · rw [← e,if_pos h2]; omega
      · have:=(cntN_pos (k:=k)).2 ⟨j,by omega,h2⟩
        omega
def firstN (P : Nat→Bool) : Nat→Nat→Int
  | 0,_=>-1
  | k + 1,i=>if P i then (i : Int) else firstN P k (i + 1)
theorem firstN_spec (P : Nat→Bool) : ∀ k i,(firstN P k i = -1∧∀ j,i≤j→j < i + k→P j = false)∨(∃ j,i≤j∧j < i + k∧P j = true∧firstN P k i = (j : Int)∧∀ m,i≤m→m < j→P m = false)
  | 0,i=>.inl ⟨rfl,fun j h1 h2=>by omega⟩
  | k + 1,i=>by
    simp only [firstN]
    cases hp : P i with
    | true=>exact .inr ⟨i,Nat.le_refl _,by omega,hp,by simp,fun m h1 h2=>by omega⟩
    | false =>
      simp only [Bool.false_eq_true,if_false]
      rcases firstN_spec P k (i + 1) with ⟨h1,h2⟩ | ⟨j,h1,h2,h3,h4,h5⟩
      · refine .inl ⟨h1,fun j a b=>?_⟩
        by_cases e : j = i
        · rw [e,hp]
        · exact h2 j (by omega) (by omega)
      · refine .inr ⟨j,by omega,by omega,h3,h4,fun m a b=>?_⟩
        by_cases e : m = i
        · rw [e,hp]
        · exact h5 m (by omega) b
theorem firstN_ge (P : Nat→Bool) (k i : Nat) : decide (0≤firstN P k i) = true↔∃ j,i≤j∧j < i + k∧P j = true:=by
  rw [decide_eq_true_iff]
  rcases firstN_spec P k i with ⟨h1,h2⟩ | ⟨j,h1,h2,h3,h4,h5⟩
  · rw [h1]
    constructor
    · intro h; omega
    · rintro ⟨j,a,b,c⟩; rw [h2 j a b] at c; cases c
  · rw [h4]
    exact ⟨fun _=>⟨j,h1,h2,h3⟩,fun _=>by omega⟩
def hlf (t : List NodeV) : Nat:=(t.length + 1) / 2
theorem hlf_lt {t : List NodeV} {i : Nat} : i < hlf t↔2 * i < t.length:=by unfold hlf; omega
def namedI (t : List NodeV) (name : List UInt8) (a : Nat) : Int:=firstN (fun j=>decide (memI t j∧(nd t (2 * j)).name = name)) (hlf t - a) a
def fitsT (t : List NodeV) (i : Nat) : Prop :=
  (nd t i).right∧((nd t i).kind = 0∨((nd t i).kind = 1↔i % 2 = 0))∧∀ u ∈ (nd t i).unm,(undI (i : Int)).1≤u∧u≤(undI (i : Int)).2∧memI t u
instance (t : List NodeV) (i : Nat) : Decidable (fitsT t i):=by unfold fitsT; infer_instance
def goodAt (t : List NodeV) (i : Nat) : Prop:=fitsT t i∧(i % 2 = 0→memI t ((i / 2 : Nat) : Int)→∀ j,j < hlf t→i / 2 < j→¬ (memI t (j : Int)∧(nd t (2 * j)).name = (nd t i).name))
def rightT (t : List NodeV) : Prop:=lvs t≠0∧(∀ i,i < t.length→goodAt t i)∧(lvs t = 1∨0 < cntN (memI t) (lvs t / 2) (lvs t - lvs t / 2))
instance (t : List NodeV) (i : Nat) : Decidable (goodAt t i):=by unfold goodAt; infer_instance
instance (t : List NodeV) : Decidable (rightT t):=by unfold rightT; infer_instance
theorem firstN_any (P : Int→Bool) (l : List Int) : decide (0≤firstN (fun i=>P (l.getD i 0)) l.length 0) = l.any P:=by
  rw [Bool.eq_iff_iff,firstN_ge,List.any_eq_true]
  constructor
  · rintro ⟨j,_,h2,h3⟩
    have hj : j < l.length:=by omega
    refine ⟨l[j],List.getElem_mem hj,?_⟩
    simpa [List.getD,hj] using h3
  · rintro ⟨x,hx,hp⟩
    obtain ⟨j,hj,rfl⟩:=List.getElem_of_mem hx
    exact ⟨j,Nat.zero_le _,by omega,by simpa [List.getD,hj] using hp⟩
theorem firstN_step {P : Nat→Bool} {k i : Nat} (h : P i = false) : firstN P (k + 1) i = firstN P k (i + 1):=by simp only [firstN,h]; rfl
theorem firstN_here {P : Nat→Bool} {k i : Nat} (h : P i = true) : firstN P (k + 1) i = (i : Int):=by simp only [firstN,h]; rfl
end Go.AM
namespace Go.Proofs.YtfjlmkifiihgkaaGreatDoor
open Go Go.AM Go.Proofs
variable {Γ : Nat→List AV}
theorem leaves_calls (t : List NodeV) (ht : t.length≤2 ^ 61) (s : AS) : ACalls Tryz.prog Γ 82 [treeV t] s (fun r s'=>r = .v (.int .i64 (lvs t))∧s' = s):=by
 refine acalls_body Tryz.func82 rfl Tryz.ntmps82 Tryz.results82 (by simp) ?_
 have e0 : iquo .i64 (iadd .i64 (t.length : Int) 1) 2 = ((((t.length + 1) / 2 : Nat)) : Int):=by rw [eye_succM _ (by omega),iquo_nat _ (by omega)]
 obtain ⟨h,hh⟩ : ∃ h,h = (t.length + 1) / 2:=⟨_,rfl⟩
 rw [← hh] at e0
 unfold treeV
 refine jA ?_
 refine jB @e0 ?_
 refine wK fun K hK=>?_
 refine jQ fun K hK=>?_
 refine acallk (fits18_calls h _) ?_
 rintro r s1 ⟨rfl,rfl⟩
 by_cases hf : Fit h
 ·have hf':=hf.le
  rw [decide_eq_true (fitI_nat.2 hf)]
  simp only [↓DM,pval,DX,Nz,↓DN,Qa,Qb,Qc,Qd,Qe,Qf,Qg,Qh,reduceCtorEq,↓reduceIte,Na,Nb,Nc,Nk,Nf,Ng,Nh,Za,Zb,Zc,TT]
  refine acallk (width18_calls h _) ?_
  rintro r s2 ⟨rfl,rfl⟩
  rw [widI_nat hf]
  by_cases hw : t.length = 2 * h - 1
  ·have hl : lvs t = h:=by unfold lvs; rw [← hh]; exact if_pos ⟨hf,hw⟩
   refine jV (natEq hw) hK ?_;clear hK K
   refine jF ?_
   refine awp_skip ?_
   refine hK _ _ ?_;clear hK K
   refine jA ?_
   refine jI ?_
   rw [hl]
   exact ⟨_,_,AV.weak.refl _,AS.le.refl _,rfl,rfl⟩
  ·have hl : lvs t = 0:=by unfold lvs; rw [← hh]; exact if_neg (fun k=>hw k.2)
   refine jV (natNe hw) hK ?_;clear hK K
   refine jE ?_
   refine jA ?_
   refine jI ?_
   rw [hl]
   exact ⟨_,_,AV.weak.refl _,AS.le.refl _,rfl,rfl⟩
 ·have hl : lvs t = 0:=by unfold lvs; rw [← hh]; exact if_neg (fun k=>hf k.1)
  rw [decide_eq_false (fun k=>hf (fitI_nat.1 k))]
  refine jR hK ?_;clear hK K
  refine jE ?_
  refine jA ?_
  refine jI ?_
  rw [hl]
  exact ⟨_,_,AV.weak.refl _,AS.le.refl _,rfl,rfl⟩
theorem member_calls (t : List NodeV) (ht : t.length≤2 ^ 61) (i : Int) (s : AS) : ACalls Tryz.prog Γ 84 [treeV t,.v (.int .i64 i)] s (fun r s'=>r = .v (.bool (decide (memI t i)))∧s' = s):=by
 refine acalls_body Tryz.func84 rfl Tryz.ntmps84 Tryz.results84 (by simp) ?_
 have hlc:=fun s=>leaves_calls (Γ:=Γ) t ht s
 unfold treeV at hlc ⊢
 refine jA ?_
 by_cases h0 : 0≤i
 ·refine jS (decide_eq_true h0) fun K hK=>?_
  refine acallk (hlc _) ?_
  rintro r s1 ⟨rfl,rfl⟩
  by_cases h1 : i < (lvs t : Int)
  ·obtain ⟨n,rfl⟩:=Int.eq_ofNat_of_zero_le h0
   have hn : n < lvs t:=by omega
   have hn2:=lvs_lt hn
   have hlv:=lvs_le t
   have hat:=node_at hn2
   have hk : decide (memI t (n : Int)) = ((nd t (2 * n)).kind == 1):=by
    rw [Bool.eq_iff_iff,decide_eq_true_iff,beq_iff_eq]
    unfold memI
    rw [Int.toNat_natCast]
    exact ⟨fun k=>k.2.2,fun k=>⟨h0,h1,k⟩⟩
   generalize nd t (2 * n) = N at *
   generalize rowC NodeV.cells t = X at *
   obtain ⟨k,nm,y,pa,u⟩:=N
   unfold NodeV.cells at hat
   have hge : (0 : Int)≤((2 * n : Nat) : Int):=by omega
   refine jV (Ai (decide_eq_true h1) (Ai (decide_eq_true hn) (Ai (imul2_nat n (by omega)) (Ai @eye_lt_nat (Ai @hn2 (Ai @hge @hat)))))) hK ?_;clear hK K
   refine jI ?_
   rw [hk]
   exact ⟨_,_,AV.weak.refl _,AS.le.refl _,rfl,rfl⟩
  ·have hk : decide (memI t i) = false:=decide_eq_false fun k=>h1 k.2.1
   refine jV (decide_eq_false h1) hK ?_;clear hK K
   refine jI ?_
   rw [hk]
   exact ⟨_,_,AV.weak.refl _,AS.le.refl _,rfl,rfl⟩
 ·have hk : decide (memI t i) = false:=decide_eq_false fun k=>h0 k.1
  refine jB (decide_eq_false h0) ?_
  refine jI ?_
  rw [hk]
  exact ⟨_,_,AV.weak.refl _,AS.le.refl _,rfl,rfl⟩
theorem members_calls (t : List NodeV) (ht : t.length≤2 ^ 61) (a k : Nat) (hak : a + k < 2 ^ 61) (s : AS) : ACalls Tryz.prog Γ 86 [treeV t,.v (.int .i64 a),.v (.int .i64 (((a + k : Nat) : Int) - 1))] s (fun r s'=>r = .v (.int .i64 (cntN (memI t) a k))∧s' = s):=by
 refine acalls_body Tryz.func86 rfl Tryz.ntmps86 Tryz.results86 (by simp) ?_
 have hm:=fun i s=>member_calls (Γ:=Γ) t ht i s
 unfold treeV at hm ⊢
 generalize rowC NodeV.cells t = X at *
 refine jA ?_
 refine jA ?_
 refine wK fun K hK=>?_
 refine jA ?_
 refine awp_block ?_
 refine awp_loop (fun E s2=>∃ i : Nat,i≤k∧E 8 = .v (.int .i64 ((a + i : Nat) : Int))∧E 7 = .v (.int .i64 (cntN (memI t) a i))∧E 0 = .sl 5 t.length X .any∧E 2 = .v (.int .i64 (((a + k : Nat) : Int) - 1))∧s2 = s)
  (fun E _=>match E 8 with | .v (.int _ i)=>a + k - i.toNat | _=>0) ?_ ?_
 ·exact ⟨0,Nat.zero_le _,by simp only [upd,Nc,↓reduceIte]; rfl,by simp only [upd,Nc,↓reduceIte]; rfl,by simp only [upd,initE,List.getD_cons_zero,List.getD_cons_succ,Nc,↓reduceIte],by simp only [upd,initE,List.getD_cons_zero,List.getD_cons_succ,Nc,↓reduceIte],rfl⟩
 ·rintro E1 s2 ⟨i,hi,g8,g7,g0,g2,rfl⟩ -
  refine wK fun K2 hK2=>?_
  by_cases hi' : i < k
  ·have h1 : decide (((a + i : Nat) : Int)≤((a + k : Nat) : Int) - 1) = true:=decide_eq_true (by omega)
   refine jB (Ai @g8 (Ai @g2 @h1)) ?_
   refine jE ?_
   refine awp_skip ?_
   refine hK2 _ _ ?_;clear hK2 K2
   refine wK fun K3 hK3=>?_
   refine awp_block ?_
   have hend : ∀ (E : Env),E 8 = .v (.int .i64 ((a + i : Nat) : Int))→E 7 = .v (.int .i64 (cntN (memI t) a (i + 1)))→E 0 = .sl 5 t.length X .any→E 2 = .v (.int .i64 (((a + k : Nat) : Int) - 1))→K3 E s2:=by
    intro E f8 f7 f0 f2
    refine hK3 _ _ ?_;clear hK3 K3
    refine jD (Ai @f8 (eye_succM (a + i) (by omega))) ?_
    refine ⟨⟨i + 1,hi',by simp only [upd,Nc,↓reduceIte]; rfl,by simp only [upd,f7,Nc,↓reduceIte],by simp only [upd,f0,Nc,↓reduceIte],by simp only [upd,f2,Nc,↓reduceIte],rfl⟩,?_⟩
    simp only [g8,upd,↓reduceIte]
    omega
   clear hK3
   refine jS (Ai @g0 @g8) fun K hK=>?_
   refine acallk (hm _ _) ?_
   rintro r s3 ⟨rfl,rfl⟩
   have hc:=cntN_le (memI t) a i
   by_cases hp : memI t ((a + i : Nat) : Int)
   ·rw [decide_eq_true hp]
    refine jR hK ?_;clear hK K
    refine jE ?_
    refine jD (Ai @g7 (eye_succM (cntN (memI t) a i) (by omega))) ?_
    refine hend _ (by simp only [upd,g8,Nc,↓reduceIte]) ?_ (by simp only [upd,g0,Nc,↓reduceIte]) (by simp only [upd,g2,Nc,↓reduceIte])
    have : cntN (memI t) a (i + 1) = cntN (memI t) a i + 1:=by simp only [cntN]; rw [if_pos hp]
    rw [this]
    simp only [upd,Nc,↓reduceIte]
   ·rw [decide_eq_false hp]
    refine jR hK ?_;clear hK K
    refine jF ?_
    refine awp_skip ?_
    refine hend _ (by simp only [upd,g8,Nc,↓reduceIte]) ?_ (by simp only [upd,g0,Nc,↓reduceIte]) (by simp only [upd,g2,Nc,↓reduceIte])
    have : cntN (memI t) a (i + 1) = cntN (memI t) a i:=by simp only [cntN]; rw [if_neg hp]; omega
    rw [this]
    simp only [upd,g7,Nc,↓reduceIte]
  ·have h1 : decide (((a + i : Nat) : Int)≤((a + k : Nat) : Int) - 1) = false:=decide_eq_false (by omega)
   refine jB (Ai @g8 (Ai @g2 @h1)) ?_
   refine jF ?_
   refine awp_exit ?_
   simp only [thenQ,blockQ,if_true]
   refine hK _ _ ?_;clear hK hK2 K2 K
   obtain rfl : i = k:=by omega
   refine jB @g7 ?_
   exact jJ
end Go.Proofs.YtfjlmkifiihgkaaGreatDoor
namespace Go.Proofs.YtfjlmkifiihgkaaGreatDoor
open Go Go.AM Go.Proofs
variable {Γ : Nat→List AV}
theorem named20_calls (t : List NodeV) (ht : t.length≤2 ^ 61) (name : List UInt8) (a : Nat) (ha : a≤2 ^ 60) (s : AS) : ACalls Tryz.prog Γ 85 [treeV t,bytesV name .any,.v (.int .i64 a)] s (fun r s'=>r = .v (.int .i64 (namedI t name a))∧s' = s):=by
 refine acalls_body Tryz.func85 rfl Tryz.ntmps85 Tryz.results85 (by simp) ?_
 have hm:=fun i s=>member_calls (Γ:=Γ) t ht i s
 have hat:=fun i (h : i < t.length)=>node_at (t:=t) h
 obtain ⟨Q,hQ⟩ : ∃ Q : Nat→Bool,Q = fun (j : Nat)=>decide (memI t (j : Int)∧(nd t (2 * j)).name = name):=⟨_,rfl⟩
 have hres : namedI t name a = firstN Q (hlf t - a) a:=by rw [hQ]; rfl
 unfold treeV at hm ⊢
 generalize rowC NodeV.cells t = X at *
 refine jA ?_
 refine wK fun K hK=>?_
 refine jA ?_
 refine awp_block ?_
 refine awp_loop (fun E s2=>∃ i : Nat,i≤2 ^ 61∧a≤i∧firstN Q (hlf t - i) i = firstN Q (hlf t - a) a∧E 7 = .v (.int .i64 i)∧E 0 = .sl 5 t.length X .any∧E 1 = .sl 1 name.length (name.map byteV) .any∧s2 = s)
  (fun E _=>match E 7 with | .v (.int _ i)=>hlf t - i.toNat | _=>0) ?_ ?_
 ·exact ⟨a,by omega,Nat.le_refl _,rfl,by simp only [upd,Nc,↓reduceIte],by simp only [upd,initE,List.getD_cons_zero,List.getD_cons_succ,Nc,↓reduceIte],by simp only [upd,initE,List.getD_cons_zero,List.getD_cons_succ,Nc,↓reduceIte],rfl⟩
 ·rintro E1 s2 ⟨i,hi,hai,hf,g7,g0,g1,rfl⟩ -
  refine wK fun K2 hK2=>?_
  by_cases hi' : i < hlf t
  ·have hi2 : 2 * i < t.length:=hlf_lt.1 hi'
   refine jB (Ai @g7 (Ai @g0 (Ai (imul2_nat i (by omega)) (Ai @eye_lt_nat (decide_eq_true hi2))))) ?_
   refine jE ?_
   refine awp_skip ?_
   refine hK2 _ _ ?_;clear hK2 K2
   refine wK fun K3 hK3=>?_
   refine awp_block ?_
   obtain ⟨k,hk⟩ : ∃ k,hlf t - i = k + 1:=⟨hlf t - i - 1,by omega⟩
   have hk' : hlf t - (i + 1) = k:=by omega
   rw [hk] at hf
   have hQi : Q i = decide (memI t i∧(nd t (2 * i)).name = name):=by rw [hQ]
   have hend : ∀ (E : Env),Q i = false→E 7 = .v (.int .i64 i)→E 0 = .sl 5 t.length X .any→E 1 = .sl 1 name.length (name.map byteV) .any→K3 E s2:=by
    intro E hq f7 f0 f1
    refine hK3 _ _ ?_;clear hK3 K3
    refine jD (Ai @f7 (eye_succM i (by omega))) ?_
    refine ⟨⟨i + 1,by omega,by omega,by rw [hk',← hf,firstN_step hq],by simp only [upd,Nc,↓reduceIte],by simp only [upd,f0,Nc,↓reduceIte],by simp only [upd,f1,Nc,↓reduceIte],rfl⟩,?_⟩
    simp only [g7,upd,↓reduceIte]
    omega
   clear hK3
   have hat':=hat (2 * i) hi2
   generalize nd t (2 * i) = N at *
   obtain ⟨nk,nm,ny,npa,nu⟩:=N
   unfold NodeV.cells at hat'
   simp only at hQi
   have hge : (0 : Int)≤((2 * i : Nat) : Int):=by omega
   refine jS (Ai @g0 @g7) fun K hK=>?_
   refine acallk (hm _ _) ?_
   rintro r s3 ⟨rfl,rfl⟩
   by_cases hp : memI t (i : Int)
   ·rw [decide_eq_true hp]
    simp only [↓DM,pval,DX,Nz,↓DN,Qa,Qb,Qc,Qd,Qe,Qf,Qg,Qh,reduceCtorEq,↓reduceIte,Na,Nb,Nc,Nk,Nf,Ng,Nh,Za,Zb,Zc,TT,g0,g7,g1,imul2_nat i (by omega),eye_lt_nat,hi2,hge,hat']
    refine acallk (bytesEqual_calls nm name _) ?_
    rintro r s4 ⟨rfl,rfl⟩
    by_cases hn : nm = name
    ·rw [decide_eq_true hn]
     rw [decide_eq_true ⟨hp,hn⟩] at hQi
     refine jR hK ?_;clear hK K
     refine jE ?_
     refine jB @g7 ?_
     refine jI ?_
     rw [hres,← hf,firstN_here hQi]
     exact ⟨_,_,AV.weak.refl _,AS.le.refl _,rfl,rfl⟩
    ·rw [decide_eq_false hn]
     rw [decide_eq_false (fun q=>hn q.2)] at hQi
     refine jR hK ?_;clear hK K
     refine jF ?_
     refine awp_skip ?_
     exact hend _ hQi (by simp only [upd,g7,Nc,↓reduceIte]) (by simp only [upd,g0,Nc,↓reduceIte]) (by simp only [upd,g1,Nc,↓reduceIte])
   ·rw [decide_eq_false hp]
    rw [decide_eq_false (fun q=>hp q.1)] at hQi
    refine jR hK ?_;clear hK K
    refine jF ?_
    refine awp_skip ?_
    exact hend _ hQi (by simp only [upd,g7,Nc,↓reduceIte]) (by simp only [upd,g0,Nc,↓reduceIte]) (by simp only [upd,g1,Nc,↓reduceIte])
  ·have hi2 : ¬ 2 * i < t.length:=fun h=>hi' (hlf_lt.2 h)
   refine jB (Ai @g7 (Ai @g0 (Ai (imul2_nat i (by omega)) (Ai @eye_lt_nat (decide_eq_false hi2))))) ?_
   refine jF ?_
   refine awp_exit ?_
   simp only [thenQ,blockQ,if_true]
   refine hK _ _ ?_;clear hK hK2 K2 K
   rw [show hlf t - i = 0 by omega] at hf
   refine jA ?_
   refine jI ?_
   rw [hres,← hf]
   exact ⟨_,_,AV.weak.refl _,AS.le.refl _,rfl,rfl⟩
theorem indexFunc_calls (l : List Int) (hl : l.length≤2 ^ 61) (k : FuncId) (hk : callable Tryz.prog k = true) (caps : List AV) (P : Int→Bool)
  (hP : ∀ x ∈ l,∀ s,ACalls Tryz.prog Γ k (.v (.int .i64 x) :: caps) s (fun r s'=>r = .v (.bool (P x))∧s' = s)) (s : AS) :
  ACalls Tryz.prog Γ 219 [intsV l .any,.clo k caps] s (fun r s'=>r = .v (.int .i64 (firstN (fun i=>P (l.getD i 0)) l.length 0))∧s' = s):=by
 refine acalls_body Tryz.func219 rfl Tryz.ntmps219 Tryz.results219 (by simp) ?_
 obtain ⟨Q,hQ⟩ : ∃ Q : Nat→Bool,Q = fun i=>P (l.getD i 0):=⟨_,rfl⟩
 rw [← hQ]
 unfold intsV
 refine jA ?_
 refine wK fun K hK=>?_
 refine jA ?_
 refine awp_block ?_
 refine awp_loop (fun E s2=>∃ i : Nat,i≤l.length∧firstN Q (l.length - i) i = firstN Q l.length 0∧E 8 = .v (.int .i64 i)∧E 7 = .v (.int .i64 l.length)∧E 0 = .sl 1 l.length (l.map intC) .any∧E 1 = .clo k caps∧s2 = s)
  (fun E _=>match E 8 with | .v (.int _ i)=>l.length - i.toNat | _=>0) ?_ ?_
 ·exact ⟨0,Nat.zero_le _,rfl,by simp only [upd,Nc,↓reduceIte]; rfl,by simp only [upd,Nc,↓reduceIte],by simp only [upd,initE,List.getD_cons_zero,List.getD_cons_succ,Nc,↓reduceIte],by simp only [upd,initE,List.getD_cons_zero,List.getD_cons_succ,Nc,↓reduceIte],rfl⟩
 ·rintro E1 s2 ⟨i,hi,hf,g8,g7,g0,g1,rfl⟩ -
  by_cases hi' : i < l.length
  ·refine jB (Ai @g8 (Ai @g7 (Ai @eye_lt_nat (decide_eq_true hi')))) ?_
   refine wK fun K2 hK2=>?_
   refine jE ?_
   refine awp_skip ?_
   refine hK2 _ _ ?_;clear hK2 K2
   refine wK fun K3 hK3=>?_
   refine awp_block ?_
   have hQi : Q i = P l[i]:=by rw [hQ]; simp [List.getD,hi']
   have hc:=hP l[i] (List.getElem_mem hi') s2
   rw [← hQi] at hc
   obtain ⟨k',hk1⟩ : ∃ k',l.length - i = k' + 1:=⟨l.length - i - 1,by omega⟩
   have hk2 : l.length - (i + 1) = k':=by omega
   rw [hk1] at hf
   have hat:=eat_int hi'
   have hge : (0 : Int)≤(i : Int):=by omega
   refine jB @g8 ?_
   refine jS (Ai @g1 (Ai @g0 (Ai @eye_lt_nat (Ai @hi' (Ai @hge @hat))))) fun K hK=>?_
   refine ⟨hk,?_⟩
   refine acallk hc ?_
   rintro r s3 ⟨rfl,rfl⟩
   cases hq : Q i with
   | true =>
    refine jR hK ?_;clear hK K
    refine jE ?_
    refine jA ?_
    refine jI ?_
    rw [← hf,firstN_here hq]
    exact ⟨_,_,AV.weak.refl _,AS.le.refl _,rfl,rfl⟩
   | false =>
    refine jR hK ?_;clear hK K
    refine jF ?_
    refine awp_skip ?_
    simp only [blockQ,thenQ,if_true,if_false]
    refine hK3 _ _ ?_;clear hK3 K3
    refine jD (Ai @g8 (eye_succM i (by omega))) ?_
    refine ⟨⟨i + 1,by omega,by rw [hk2,← hf,firstN_step hq],by simp only [upd,Nc,↓reduceIte],by simp only [upd,g7,Nc,↓reduceIte],by simp only [upd,g0,Nc,↓reduceIte],by simp only [upd,g1,Nc,↓reduceIte],rfl⟩,?_⟩
    simp only [g8,upd,↓reduceIte]
    omega
  ·refine jB (Ai @g8 (Ai @g7 (Ai @eye_lt_nat (decide_eq_false hi')))) ?_
   refine wK fun K2 hK2=>?_
   refine jF ?_
   refine awp_exit ?_
   simp only [thenQ,blockQ,if_true]
   refine hK _ _ ?_;clear hK hK2 K2 K
   rw [show l.length - i = 0 by omega] at hf
   refine jA ?_
   refine jI ?_
   rw [← hf]
   exact ⟨_,_,AV.weak.refl _,AS.le.refl _,rfl,rfl⟩
theorem containsFunc_calls (l : List Int) (hl : l.length≤2 ^ 61) (k : FuncId) (hk : callable Tryz.prog k = true) (caps : List AV) (P : Int→Bool)
  (hP : ∀ x ∈ l,∀ s,ACalls Tryz.prog Γ k (.v (.int .i64 x) :: caps) s (fun r s'=>r = .v (.bool (P x))∧s' = s)) (s : AS) :
  ACalls Tryz.prog Γ 155 [intsV l .any,.clo k caps] s (fun r s'=>r = .v (.bool (l.any P))∧s' = s):=by
 refine acalls_body Tryz.func155 rfl Tryz.ntmps155 Tryz.results155 (by simp) ?_
 have hc:=fun s=>indexFunc_calls (Γ:=Γ) l hl k hk caps P hP s
 have ha:=firstN_any P l
 generalize firstN (fun i=>P (l.getD i 0)) l.length 0 = n at *
 refine jA ?_
 refine jK (hc _) ?_;rintro s1 rfl
 refine jI ?_
 rw [← ha]
 exact ⟨_,_,AV.weak.refl _,AS.le.refl _,rfl,rfl⟩
theorem foreign_clo : callable Tryz.prog 154 = true:=by kernel_rfl
def foreignB (t : List NodeV) (a b : Int) (u : Int) : Bool:=decide (u < a) || (decide (b < u) || !decide (memI t u))
theorem foreign_calls (t : List NodeV) (ht : t.length≤2 ^ 61) (a b u : Int) (s : AS) : ACalls Tryz.prog Γ 154 [.v (.int .i64 u),.rop [.v (.int .i64 a)],.rop [.v (.int .i64 b)],.rop [treeV t]] s (fun r s'=>r = .v (.bool (foreignB t a b u))∧s' = s):=by
 refine acalls_body Tryz.func154 rfl Tryz.ntmps154 Tryz.results154 (by simp) ?_
 have hm:=fun i s=>member_calls (Γ:=Γ) t ht i s
 unfold treeV at hm ⊢
 generalize rowC NodeV.cells t = X at *
 unfold foreignB
 refine jA ?_
 by_cases h1 : u < a
 ·have hr : (decide (u < a) || (decide (b < u) || !decide (memI t u))) = true:=by rw [decide_eq_true h1]; rfl
  refine jB (decide_eq_true h1) ?_
  refine jI ?_
  rw [hr]
  exact ⟨_,_,AV.weak.refl _,AS.le.refl _,rfl,rfl⟩
 ·by_cases h2 : b < u
  ·have hr : (decide (u < a) || (decide (b < u) || !decide (memI t u))) = true:=by rw [decide_eq_true h2,decide_eq_false h1]; rfl
   refine jB (Ai (decide_eq_false h1) (decide_eq_true h2)) ?_
   refine jI ?_
   rw [hr]
   exact ⟨_,_,AV.weak.refl _,AS.le.refl _,rfl,rfl⟩
  ·have hr : (decide (u < a) || (decide (b < u) || !decide (memI t u))) = !decide (memI t u):=by rw [decide_eq_false h2,decide_eq_false h1]; rfl
   refine jS (Ai (decide_eq_false h1) (decide_eq_false h2)) fun K hK=>?_
   refine acallk (hm _ _) ?_
   rintro r s1 ⟨rfl,rfl⟩
   refine jR hK ?_;clear hK K
   refine jI ?_
   rw [hr]
   exact ⟨_,_,AV.weak.refl _,AS.le.refl _,rfl,rfl⟩
theorem fits20_calls (hG : Γ 3 = dB64.map u8C) (t : List NodeV) (ht : TreeW t) (i : Nat) (hi : i < t.length) (s : AS) : ACalls Tryz.prog Γ 83 [treeV t,.v (.int .i64 i)] s (fun r s'=>r = .v (.bool (decide (fitsT t i)))∧s' = s):=by
 refine acalls_body Tryz.func83 rfl Tryz.ntmps83 Tryz.results83 (by simp) ?_
 have hun:=fun s=>under18_calls (Γ:=Γ) hG (i : Int) s
 obtain ⟨a,ha⟩ : ∃ a,a = (undI (i : Int)).1:=⟨_,rfl⟩
 obtain ⟨b,hb⟩ : ∃ b,b = (undI (i : Int)).2:=⟨_,rfl⟩
 rw [← ha,← hb] at hun
 have hfo:=fun u s=>foreign_calls (Γ:=Γ) t ht.1 a b u s
 have hat:=node_at hi
 have hN:=ht.nd i
 have hfit : fitsT t i↔(nd t i).right∧((nd t i).kind = 0∨((nd t i).kind = 1↔i % 2 = 0))∧((nd t i).unm.any (foreignB t a b)) = false:=by
  unfold fitsT
  rw [← ha,← hb]
  simp only [List.any_eq_false,foreignB,Bool.or_eq_true,decide_eq_true_eq,Bool.not_eq_true',decide_eq_false_iff_not,not_or,Int.not_lt,Decidable.not_not]
 have hnr:=fun s=>nodeRight_calls (Γ:=Γ) (nd t i) hN.1 s
 have hcf:=fun s=>containsFunc_calls (Γ:=Γ) (nd t i).unm hN.1 _ foreign_clo [.rop [.v (.int .i64 a)],.rop [.v (.int .i64 b)],.rop [treeV t]] (foreignB t a b) (fun x _ s=>hfo x s) s
 have hRES : decide (fitsT t i) = (decide (nd t i).right && (((nd t i).kind == 0 || (((nd t i).kind == 1) == (i % 2 == 0))) && !((nd t i).unm.any (foreignB t a b)))):=by
  rw [Bool.eq_iff_iff,decide_eq_true_iff,hfit]
  simp only [Bool.and_eq_true,decide_eq_true_eq,Bool.or_eq_true,beq_iff_eq,Bool.not_eq_true',Bool.beq_eq_decide_eq]
  constructor
  ·rintro ⟨x,y,z⟩
   exact ⟨x,y.imp id (fun q=>by rw [Bool.eq_iff_iff,decide_eq_true_iff,decide_eq_true_iff]; exact q),z⟩
  ·rintro ⟨x,y,z⟩
   exact ⟨x,y.imp id (fun q=>by rw [Bool.eq_iff_iff,decide_eq_true_iff,decide_eq_true_iff] at q; exact q),z⟩
 clear hfit
 generalize List.any (nd t i).unm (foreignB t a b) = F at *
 unfold treeV at hcf ⊢
 generalize rowC NodeV.cells t = X at *
 clear hfo
 generalize decide (fitsT t i) = RES at *
 generalize decide (nd t i).right = RT at *
 generalize nd t i = N at *
 obtain ⟨nk,nm,ny,npa,nu⟩:=N
 unfold NodeV.cells at hat hnr
 simp only at hRES hcf
 unfold intsV at hcf hat hnr
 have hge : (0 : Int)≤(i : Int):=by omega
 have hi' : i < t.length:=hi
 refine awp_reg_frz 2 (by decide) ?_
 intro K hK
 simp only [↓DM,pval,DX,Nz,↓DN,Qa,Qb,Qc,Qd,Qe,Qf,Qg,Qh,reduceCtorEq,↓reduceIte,Na,Nb,Nc,Nk,Nf,Ng,Nh,Za,Zb,Zc,TT]
 intro o1 h1
 refine hK _ _ o1 _ (by simp only [upd,Nc,↓reduceIte]) h1 ?_
 clear hK K h1
 refine awp_reg_frz 5 (by decide) ?_
 intro K hK
 simp only [↓DM,pval,DX,Nz,↓DN,Qa,Qb,Qc,Qd,Qe,Qf,Qg,Qh,reduceCtorEq,↓reduceIte,Na,Nb,Nc,Nk,Nf,Ng,Nh,Za,Zb,Zc,TT,eye_lt_nat,hi',hge,hat]
 intro o1 h1
 refine hK _ _ o1 _ (by simp only [upd,Nc,↓reduceIte]) h1 ?_
 clear hK K h1
 refine awp_reg_frz2 6 7 (by decide) (by decide) (by decide) ?_
 intro K hK
 simp only [↓DM,pval,DX,Nz,↓DN,Qa,Qb,Qc,Qd,Qe,Qf,Qg,Qh,reduceCtorEq,↓reduceIte,Na,Nb,Nc,Nk,Nf,Ng,Nh,Za,Zb,Zc,TT]
 refine acallk (hun _) ?_
 rintro r s1 ⟨rfl,rfl⟩
 simp only [↓DM,pval,DX,Nz,↓DN,Qa,Qb,Qc,Qd,Qe,Qf,Qg,Qh,reduceCtorEq,↓reduceIte,Na,Nb,Nc,Nk,Nf,Ng,Nh,Za,Zb,Zc,TT]
 intro o1 ho1 o2 ho2
 have hne : o1≠o2:=by rintro rfl; simp at ho2
 have hne2:=hne.symm
 simp only [hne,hne2,if_true,if_false,↓reduceIte,List.set_cons_zero,List.set_cons_succ,List.length_cons,List.length_nil,Nat.reduceAdd,Nat.le_refl,true_and]
 rw [set_four hne]
 refine hK _ _ o1 o2 _ _ (by simp only [upd,Nc,↓reduceIte]) (by simp only [upd,Nc,↓reduceIte]) ho1 (by rw [AS.set_objs_ne _ hne2]; simpa [hne2] using ho2) ?_
 clear hK K ho1 ho2 hne hne2
 refine jA ?_
 have hr2 : irem (i : Int) 2 = ((i % 2 : Nat) : Int):=irem_u i 2
 have bb : ((true == true) = true∧(false == false) = true)∧((true == false) = false∧(false == true) = false):=⟨⟨rfl,rfl⟩,rfl,rfl⟩
 cases RT with
 | false =>
  refine jK (hnr _) ?_;rintro s2 rfl
  refine jI ?_
  rw [hRES]
  exact ⟨_,_,AV.weak.refl _,AS.le.refl _,rfl,rfl⟩
 | true =>
  by_cases k0 : nk = 0
  ·have t0:=yesI k0
   refine jQ fun K hK=>?_
   refine acallk (hnr _) ?_
   rintro r s2 ⟨rfl,rfl⟩
   simp only [↓DM,pval,DX,Nz,↓DN,Qa,Qb,Qc,Qd,Qe,Qf,Qg,Qh,reduceCtorEq,↓reduceIte,Na,Nb,Nc,Nk,Nf,Ng,Nh,Za,Zb,Zc,TT,t0]
   refine acallk (hcf _) ?_
   rintro r s3 ⟨rfl,rfl⟩
   refine jR hK ?_;clear hK K
   refine jI ?_
   have hX0 : (true && ((nk == 0 || ((nk == 1) == (i % 2 == 0))) && !F)) = !F:=by rw [t0]; cases F <;> rfl
   rw [hRES,hX0]
   exact ⟨_,_,AV.weak.refl _,AS.le.refl _,rfl,rfl⟩
  ·have t0:=notI k0
   by_cases k1 : nk = 1
   ·have t1:=yesI k1
    by_cases kp : i % 2 = 0
    ·have t2 : (irem (i : Int) 2 == 0) = true:=by rw [hr2]; exact yesI (by omega)
     have t3 : (i % 2 == 0) = true:=by simpa using kp
     have hX0 : (true && ((nk == 0 || ((nk == 1) == (i % 2 == 0))) && !F)) = !F:=by rw [t0,t1,t3]; cases F <;> rfl
     refine jQ fun K hK=>?_
     refine acallk (hnr _) ?_
     rintro r s2 ⟨rfl,rfl⟩
     simp only [↓DM,pval,DX,Nz,↓DN,Qa,Qb,Qc,Qd,Qe,Qf,Qg,Qh,reduceCtorEq,↓reduceIte,Na,Nb,Nc,Nk,Nf,Ng,Nh,Za,Zb,Zc,TT,t0,t1,two0,t2,bb]
     refine acallk (hcf _) ?_
     rintro r s3 ⟨rfl,rfl⟩
     refine jR hK ?_;clear hK K
     refine jI ?_
     rw [hRES,hX0]
     exact ⟨_,_,AV.weak.refl _,AS.le.refl _,rfl,rfl⟩
    ·have t2 : (irem (i : Int) 2 == 0) = false:=by rw [hr2]; exact notI (by omega)
     have t3 : (i % 2 == 0) = false:=by simpa using kp
     have hX0 : (true && ((nk == 0 || ((nk == 1) == (i % 2 == 0))) && !F)) = false:=by rw [t0,t1,t3]; cases F <;> rfl
     refine jQ fun K hK=>?_
     refine acallk (hnr _) ?_
     rintro r s2 ⟨rfl,rfl⟩
     simp only [↓DM,pval,DX,Nz,↓DN,Qa,Qb,Qc,Qd,Qe,Qf,Qg,Qh,reduceCtorEq,↓reduceIte,Na,Nb,Nc,Nk,Nf,Ng,Nh,Za,Zb,Zc,TT,t0,t1,two0,t2,bb]
     refine hK _ _ ?_;clear hK K
     refine jI ?_
     rw [hRES,hX0]
     exact ⟨_,_,AV.weak.refl _,AS.le.refl _,rfl,rfl⟩
   ·have t1:=notI k1
    by_cases kp : i % 2 = 0
    ·have t2 : (irem (i : Int) 2 == 0) = true:=by rw [hr2]; exact yesI (by omega)
     have t3 : (i % 2 == 0) = true:=by simpa using kp
     have hX0 : (true && ((nk == 0 || ((nk == 1) == (i % 2 == 0))) && !F)) = false:=by rw [t0,t1,t3]; cases F <;> rfl
     refine jQ fun K hK=>?_
     refine acallk (hnr _) ?_
     rintro r s2 ⟨rfl,rfl⟩
     simp only [↓DM,pval,DX,Nz,↓DN,Qa,Qb,Qc,Qd,Qe,Qf,Qg,Qh,reduceCtorEq,↓reduceIte,Na,Nb,Nc,Nk,Nf,Ng,Nh,Za,Zb,Zc,TT,t0,t1,two0,t2,bb]
     refine hK _ _ ?_;clear hK K
     refine jI ?_
     rw [hRES,hX0]
     exact ⟨_,_,AV.weak.refl _,AS.le.refl _,rfl,rfl⟩
    ·have t2 : (irem (i : Int) 2 == 0) = false:=by rw [hr2]; exact notI (by omega)
     have t3 : (i % 2 == 0) = false:=by simpa using kp
     have hX0 : (true && ((nk == 0 || ((nk == 1) == (i % 2 == 0))) && !F)) = !F:=by rw [t0,t1,t3]; cases F <;> rfl
     refine jQ fun K hK=>?_
     refine acallk (hnr _) ?_
     rintro r s2 ⟨rfl,rfl⟩
     simp only [↓DM,pval,DX,Nz,↓DN,Qa,Qb,Qc,Qd,Qe,Qf,Qg,Qh,reduceCtorEq,↓reduceIte,Na,Nb,Nc,Nk,Nf,Ng,Nh,Za,Zb,Zc,TT,t0,t1,two0,t2,bb]
     refine acallk (hcf _) ?_
     rintro r s3 ⟨rfl,rfl⟩
     refine jR hK ?_;clear hK K
     refine jI ?_
     rw [hRES,hX0]
     exact ⟨_,_,AV.weak.refl _,AS.le.refl _,rfl,rfl⟩
end Go.Proofs.YtfjlmkifiihgkaaGreatDoor
