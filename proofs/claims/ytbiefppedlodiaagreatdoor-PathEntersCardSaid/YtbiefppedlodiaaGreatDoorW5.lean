/- Contracts of functions, each walked once; each theorem states its conditions. -/
import Derived.Test.YtbiefppedlodiaaGreatDoorAMp6
import Derived.Test.YtbiefppedlodiaaGreatDoorW1
import Derived.Test.YtbiefppedlodiaaGreatDoorW4
import Derived.Test.YtbiefppedlodiaaGreatDoorW3
import Derived.Test.YtbiefppedlodiaaGreatDoorW2
set_option linter.unusedSimpArgs false
set_option linter.unusedVariables false
open Nat renaming reduceLT → Na, reduceLeDiff → Nb, reduceEqDiff → Nc, reduceAdd → Nk, reduceMul → Nf, reducePow → Ng, reduceSub → Nh, reduceBEq → Nz
open Int renaming reduceLT → Za, reduceLE → Zb, reduceToNat → Zc
open And renaming intro → Ai
open Go.AM renaming ashift → Qa, aconv → Qb, aindexAddr → Qc, aindex → Qd, aslice → Qe, abuiltin → Qf, awp_reg_seq → wS, awp_reg_end → wE, awp_seq_k → wK, awp_cond_k → wC
open Go.AM.AV renaming cells → Qg, one → Qh
set_option maxRecDepth 100000
set_option maxHeartbeats 8000000
namespace Go.Proofs.YtbiefppedlodiaaGreatDoor
open Go Go.AM Go.Proofs Tryz
variable {Γ : Nat→List AV}
def pg (cs : List AV) (i : Nat) : AV:=.sl 1 64 (List.drop (64 * i) (List.take (64 * i + 64) cs)) .full
theorem DZ (cs : List AV) (t e m : Nat) (hl : cs.length = 64 * m) (hm : m≤2 ^ 40) :
  O6 prog Γ 232 [.dc [.sl 1 (64 * m) cs (.own t e)],.dc [.v (.int .i64 64)]] ((List.range m).map (pg cs)):=by
 intro S l G W lb tn QN hs hy
 refine callsIn_of_wp func232 rfl trivial ?_
 have QZ:=Rel.entry (N:=31) (args:=[.v (.func (.yield l) #[] #[]),.dc [.sl 1 (64 * m) cs (.own t e)],.dc [.v (.int .i64 64)]]) (vs:=.func (.yield l) #[] #[] :: lb) hs (by simp only [aq]; exact ⟨_,_,rfl,by simp [au],by simpa only [aq] using QN⟩) (by simp) tn
 rw [show (#[.func (.yield l) #[] #[]] ++ lb.toArray : Array Value) = (.func (.yield l) #[] #[] :: lb).toArray from by simp,ntmps232]
 refine wpIn_seq ?_
 refine kN (l:=none) (K:=fun E1 s1=>E1 0 = .v (.func (.yield l) #[] #[])∧E1 1 = .dc [.sl 1 (64 * m) cs (.own t e)]∧E1 2 = .dc [.v (.int .i64 64)]∧E1 4 = .v (.int .i64 0)∧s1 = S 0) ?_ QZ ?_
 ·simp only [↓DN,Qa,Qb,Qc,Qd,Qe,Qf,Qg,Qh,reduceCtorEq,↓reduceIte,Na,Nb,Nc,Nk,Nf,Ng,Nh,Za,Zb,Zc,TT]
 ·rintro G0 E0 s0 a0 w0 xa5 Et ⟨e0,e1,e2,e4,rfl⟩
  refine wpIn_block ?_
  refine wpIn_loop (fun a w=>∃ (i : Nat) (G1 : Gh) (E1 : Env),i≤m∧G.le G1∧Rel Γ 31 G1 E1 (S i) a w∧E1 0 = .v (.func (.yield l) #[] #[])∧E1 1 = .dc [.sl 1 (64 * m) cs (.own t e)]∧E1 2 = .dc [.v (.int .i64 64)]∧E1 4 = .v (.int .i64 ((64 * i : Nat) : Int)))
   (fun a _=>match a.tmps.getD 4 undef with | .int _ x=>64 * m - x.toNat | _=>0) ⟨0,G0,E0,Nat.zero_le _,xa5,Et,e0,e1,e2,e4⟩ ?_
  rintro a w ⟨i,G1,E1,hi,hle,hr,e0,e1,e2,e4⟩
  have Xy : a.tmps.getD 4 undef = .int .i64 ((64 * i : Nat) : Int):=by
   have:=hr.tmps 4
   rw [e4] at this
   simpa only [au] using this
  refine wpIn_seq ?_
  by_cases aX : i < m
  ·have bI : ((64 * i : Nat) : Int) < ((64 * m : Nat) : Int):=by omega
   refine ch.wide (Q:=fun x E' s'=>x = .normal∧s' = S i∧E' 0 = .v (.func (.yield l) #[] #[])∧E' 1 = .dc [.sl 1 (64 * m) cs (.own t e)]∧E' 2 = .dc [.v (.int .i64 64)]∧E' 4 = .v (.int .i64 ((64 * i : Nat) : Int))) ?_ hr ?_
   ·refine jB (Ai @e1 (Ai @e4 (decide_eq_true bI))) ?_
    refine jE ?_
    refine ab ?_
    simp only [aF,e0,e1,e2,e4,Nc,↓reduceIte,and_self]
   ·rintro x G2 E2 s2 a2 w2 eQ p6 ⟨rfl,rfl,f0,f1,f2,f4⟩
    refine wpIn_seq (wpIn_block (wpIn_seq ?_))
    have h0 : (0 : Int)≤((64 * i : Nat) : Int):=by omega
    have gb : ((64 * i : Nat) : Int)≤((64 * m : Nat) : Int):=by omega
    refine ch.wide (Q:=fun x E' s'=>x = .normal∧s' = S i∧E' 0 = .v (.func (.yield l) #[] #[])∧E' 1 = .dc [.sl 1 (64 * m) cs (.own t e)]∧E' 2 = .dc [.v (.int .i64 64)]∧E' 4 = .v (.int .i64 ((64 * i : Nat) : Int))∧E' 5 = .v (.int .i64 64)) ?_ p6 ?_
    ·have Be : ¬ (((64 * m - 64 * i : Nat) : Int) < 64):=by omega
     refine fe T.mixed [] (by kernel_rfl) ?_
     intro K hK
     refine jV (Ai @f1 (Ai @f2 (Ai @f4 (Ai @h0 (Ai @gb (Ai @Int.le_refl @Be)))))) hK ?_;clear hK K
     simp only [aF,f0,f1,f2,f4,Nc,↓reduceIte,and_self]
    ·rintro x G3 E3 s3 a3 w3 PZ p5 ⟨rfl,rfl,g0,g1,g2,g4,g5⟩
     refine wpIn_seq ?_
     have N3 : dP .i64 ((64 * i : Nat) : Int) 64 = ((64 * i + 64 : Nat) : Int):=fD (64 * i) 64 (by omega)
     have A8 : ((64 * i : Nat) : Int)≤((64 * i + 64 : Nat) : Int):=by omega
     have Cp : ((64 * i + 64 : Nat) : Int)≤((64 * m : Nat) : Int):=by omega
     refine tp (l:=l)
      (K1:=fun E' s'=>s' = S i∧E' 0 = .v (.func (.yield l) #[] #[])∧E' 1 = .dc [.sl 1 (64 * m) cs (.own t e)]∧E' 2 = .dc [.v (.int .i64 64)]∧E' 4 = .v (.int .i64 ((64 * i : Nat) : Int))∧E' 28 = pg cs i)
      (K2:=fun E' s'=>s' = S (i + 1)∧E' 0 = .v (.func (.yield l) #[] #[])∧E' 1 = .dc [.sl 1 (64 * m) cs (.own t e)]∧E' 2 = .dc [.v (.int .i64 64)]∧E' 4 = .v (.int .i64 ((64 * i : Nat) : Int))∧E' 30 = .v (.bool false))
      rfl rfl (by decide) ?_ p5 ?_ ?_
     ·intro ops
      simp only [↓DN,Qa,Qb,Qc,Qd,Qe,Qf,Qg,Qh,reduceCtorEq,↓reduceIte,Na,Nb,Nc,Nk,Nf,Ng,Nh,Za,Zb,Zc,TT,g0,g1,g2,g4,g5,N3,h0,A8,Cp]
      rw [pg,show 64 * i + 64 - 64 * i = 64 by omega]
     ·rintro ops G4 E4 s4 a4 w4 ib Cs ⟨rfl,k0,k1,k2,k4,k28⟩
      have hu:=Cs.tmps 28
      rw [k28] at hu
      obtain ⟨fn,tmps,assign,body,q1,q2⟩:=hy i (pg cs i) G4 (a4.tmps.getD 28 undef) w4 (by simp [aX]) (hle.trans (eQ.trans (PZ.trans ib))) Cs.st hu
      refine ⟨fn,tmps,assign,body,q1,RoundIn.mono (F:=Fence.wide) q2 ?_⟩
      rintro e' W' ⟨rfl,G5,b1,b2⟩
      refine ⟨rfl,G5,S (i + 1),b1,b2,?_⟩
      simp only [↓DN,Qa,Qb,Qc,Qd,Qe,Qf,Qg,Qh,reduceCtorEq,↓reduceIte,Na,Nb,Nc,Nk,Nf,Ng,Nh,Za,Zb,Zc,TT]
      simp only [aF,k0,k1,k2,k4,Nc,↓reduceIte,and_self]
     ·rintro G4 E4 s4 a4 w4 ib Cs ⟨rfl,k0,k1,k2,k4,Y6⟩
      show Code.wpIn Fence.wide 0 _ (Code.cond _ _ _) _ a4 w4
      refine ch.wide (Q:=fun x E' s'=>x = .normal∧s' = S (i + 1)∧E' 0 = .v (.func (.yield l) #[] #[])∧E' 1 = .dc [.sl 1 (64 * m) cs (.own t e)]∧E' 2 = .dc [.v (.int .i64 64)]∧E' 4 = .v (.int .i64 ((64 * i : Nat) : Int))) ?_ Cs ?_
      ·refine fa Y6 (ab ?_)
       simp only [k0,k1,k2,k4,and_self]
      ·rintro x G5 E5 s5 a5 w5 gp MN ⟨rfl,rfl,q0,q1,q2,q4⟩
       show Code.wpIn Fence.wide 0 _ (Code.region _ _ _) _ a5 w5
       refine kN (l:=none) (K:=fun E' s'=>s' = S (i + 1)∧E' 0 = .v (.func (.yield l) #[] #[])∧E' 1 = .dc [.sl 1 (64 * m) cs (.own t e)]∧E' 2 = .dc [.v (.int .i64 64)]∧E' 4 = .v (.int .i64 ((64 * (i + 1) : Nat) : Int))) ?_ MN ?_
       ·simp only [↓DN,Qa,Qb,Qc,Qd,Qe,Qf,Qg,Qh,reduceCtorEq,↓reduceIte,Na,Nb,Nc,Nk,Nf,Ng,Nh,Za,Zb,Zc,TT,q0,q1,q2,q4,N3]
        rfl
       ·rintro G6 E6 s6 a6 w6 mD sM ⟨rfl,p0,p1,p2,p4⟩
        refine ⟨⟨i + 1,G6,E6,aX,hle.trans (eQ.trans (PZ.trans (ib.trans (gp.trans mD)))),sM,p0,p1,p2,p4⟩,?_⟩
        have:=sM.tmps 4
        rw [p4] at this
        simp only [au] at this
        rw [this,Xy]
        simp only [Int.toNat_natCast]
        omega
  ·obtain rfl : i = m:=by omega
   have bI : ¬ ((64 * i : Nat) : Int) < ((64 * i : Nat) : Int):=by omega
   refine ch.wide (Q:=fun x E' s'=>x = .exit 0∧s' = S i) ?_ hr ?_
   ·refine jB (Ai @e1 (Ai @e4 (decide_eq_false bI))) ?_
    refine jF ?_
    refine aA ?_
    exact ⟨rfl,rfl⟩
   ·rintro x G2 E2 s2 a2 w2 eQ p6 ⟨rfl,rfl⟩
    refine ⟨p6.defers.trans (eQ.df.trans (hle.df.trans tn)),.tuple #[],?_,⟨_,rfl⟩,G2,hle.trans eQ,by simpa using p6.st⟩
    rw [kJ,results232]
    simp
theorem D0 (cs : List AV) (n t e : Nat) (s : AS) :
  ai prog Γ 198 [.sl 1 n cs (.own t e),.v (.int .i64 64)] s (fun r s'=>r = .pI 232 [.dc [.sl 1 n cs (.own t e)],.dc [.v (.int .i64 64)]]∧s' = s):=by
 refine aa func198 rfl ntmps198 results198 (by simp) ?_;refine gP 2 3 (by decide) (by decide) (by decide) ?_;intro K hK;refine jM ?_;intro o1 h1 o2 h2;refine hK _ _ o1 o2 _ _ rfl rfl h1 (by rw [AS.gw]; exact h2) ?_;clear hK K;refine wK fun K hK=>?_;refine jA ?_;refine jF ?_;refine ab ?_;refine hK _ _ ?_;clear hK K;refine jA ?_;exact jJ
theorem AH (l : List UInt8) (i : Nat) (h : 64 * (i + 1)≤l.length) : pg (l.map ah) i = .sl 1 64 ((Sha.mH l i).map ah) .full∧(Sha.mH l i).length = 64:=by
 have e1 : Sha.mH l i = List.drop (64 * i) (List.take (64 * i + 64) l):=by
  rw [Sha.mH,List.drop_take];congr 1;omega
 constructor
 ·rw [pg,e1];simp only [List.map_drop,List.map_take]
 ·simp only [Sha.mH,List.length_take,List.length_drop];omega
def Im (t : Sha.St) (i : Nat) : List UInt8:=((t.list.take i).map Sha.be).flatten
theorem AJ (t : Sha.St) (i : Nat) (h : i < 8) : Im t i ++ Sha.be (t.list.getD i 0) = Im t (i + 1):=by
 rcases at8 h with rfl | rfl | rfl | rfl | rfl | rfl | rfl | rfl <;> rfl
theorem Xz (x : AV) : List.replicate 4 x = [x,x,x,x]:=rfl
theorem AK (t : Sha.St) : Im t 8 = t.bytes:=rfl
theorem D1 (t : Sha.St) (i : Nat) (h : i≤8) : (Im t i).length = 4 * i:=by
 rcases Nat.lt_or_ge i 8 with h' | h'
 ·rcases at8 h' with rfl | rfl | rfl | rfl | rfl | rfl | rfl | rfl <;> rfl
 ·obtain rfl : i = 8:=(by omega);rfl
theorem N4 (t : Sha.St) (i : Nat) (h : i < 8) : (dV t)[i]? = some (wV (t.list.getD i 0)):=by
 rcases at8 h with rfl | rfl | rfl | rfl | rfl | rfl | rfl | rfl <;> rfl
theorem kv (dO : Γ 0 = dV Sha.H0) (hG : Γ 1 = Sha.K.map wV) (ls : List (List UInt8)) (sp : Sp) (hn : ls.length≤2 ^ 40) (hl : ls.flatten.length≤2 ^ 40) (s : AS) :
  ai prog Γ 164 [.sl 1 ls.length (fQ ls) sp] s (fun r s'=>dE s (Sha.sum ls.flatten) r s'):=by
 generalize oW : ls.flatten = l at *
 have hf:=func164
 refine nE hf rfl (by rw [ntmps164]; simp) ?_
 rw [ntmps164]
 intro G a w tn hr
 refine wpIn_seq ?_
 refine kN (l:=none) (K:=fun E' s'=>s' = s∧E' 0 = .sl 1 ls.length (fQ ls) sp) ?_ hr ?_
 ·simp only [↓DN,Qa,Qb,Qc,Qd,Qe,Qf,Qg,Qh,reduceCtorEq,↓reduceIte,Na,Nb,Nc,Nk,Nf,Ng,Nh,Za,Zb,Zc,TT]
 ·rintro G1 E1 s1 a1 w1 qX pZ ⟨rfl,e0⟩
  refine wpIn_seq ?_
  refine kN (l:=none) (K:=fun E' s'=>∃ o3,s1.av o3 = none∧s' = s1.set o3 (dV Sha.H0)∧E' 0 = .sl 1 ls.length (fQ ls) sp∧E' 3 = .ptr o3 0) ?_ pZ ?_
  ·simp only [↓DN,Qa,Qb,Qc,Qd,Qe,Qf,Qg,Qh,reduceCtorEq,↓reduceIte,Na,Nb,Nc,Nk,Nf,Ng,Nh,Za,Zb,Zc,TT,dO]
   intro o ho
   exact ⟨o,ho,rfl,e0,rfl⟩
  ·rintro G2 E2 s2 a2 w2 eQ p6 ⟨o3,zl,rfl,f0,f3⟩
   refine wpIn_seq (wpIn_seq ?_)
   have vj:=Sha.qU l
   have hpm:=Sha.GK l
   obtain ⟨m,hm⟩ : ∃ m,(Sha.pad l).length = 64 * m:=⟨(Sha.pad l).length / 64,by omega⟩
   have hz : Sha.ga l.length < 64:=by rw [Sha.ga]; omega
   refine kN (l:=none) (K:=fun E' s'=>∃ t e,(s1.set o3 (dV Sha.H0)).le s'∧E' 3 = .ptr o3 0∧E' 12 = .pI 232 [.dc [.sl 1 (64 * m) ((Sha.pad l).map ah) (.own t e)],.dc [.v (.int .i64 64)]]) ?_ p6 ?_
   ·simp only [↓DN,Qa,Qb,Qc,Qd,Qe,Qf,Qg,Qh,reduceCtorEq,↓reduceIte,Na,Nb,Nc,Nk,Nf,Ng,Nh,Za,Zb,Zc,TT,f0]
    refine ad (kn ls sp (by omega) (by rw [oW]; omega) _) ?_
    intro r sa bx
    rw [oW] at bx
    simp only [↓DN,Qa,Qb,Qc,Qd,Qe,Qf,Qg,Qh,reduceCtorEq,↓reduceIte,Na,Nb,Nc,Nk,Nf,Ng,Nh,Za,Zb,Zc,TT]
    refine ad (B5 l (by omega) _ _ _ bx) ?_
    intro r sb bx
    obtain ⟨t,e,Et⟩:=cg bx (by rw [← List.length_pos_iff]; omega)
    rw [Et,hm] at *
    simp only [↓DN,Qa,Qb,Qc,Qd,Qe,Qf,Qg,Qh,reduceCtorEq,↓reduceIte,Na,Nb,Nc,Nk,Nf,Ng,Nh,Za,Zb,Zc,TT]
    refine ad (D0 _ _ t e _) ?_
    rintro r sc ⟨rfl,rfl⟩
    simp only [↓DN,Qa,Qb,Qc,Qd,Qe,Qf,Qg,Qh,reduceCtorEq,↓reduceIte,Na,Nb,Nc,Nk,Nf,Ng,Nh,Za,Zb,Zc,TT]
    exact ⟨t,e,bx.1,f3,rfl⟩
   ·rintro G3 E3 s3 a3 w3 gb p5 ⟨t,e,Zn,g3,g12⟩
    refine wpIn_block ?_
    have GR : G.le G3:=qX.trans (eQ.trans gb)
    have XC : G3.df = []:=GR.df.trans tn
    have P0 : s3.av o3 = some (dV Sha.H0):=Zn.av _ _ (AS.ae _ _ _)
    have XD : m≤2 ^ 40:=by omega
    refine wpIn_mono (xe (p:=13) (g:=.tmp 12) p5 XC g12 (by kernel_rfl) (DZ ((Sha.pad l).map ah) t e m (by simpa using hm) XD) (by decide) (fun i=>s3.set o3 (dV (Sha.hash (Sha.pad l) i))) (AS.Jp P0) (fun x=>aF (aF E3 13 x) 4 x) ?_ ?_) ?_
    ·rintro lp i x G4 a4 W hx Cs
     refine kN (l:=some lp) (K:=fun E' s'=>E' = aF (aF E3 13 x) 4 x∧s' = s3.set o3 (dV (Sha.hash (Sha.pad l) i))) ?_ Cs ?_
     ·simp only [↓DN,Qa,Qb,Qc,Qd,Qe,Qf,Qg,Qh,reduceCtorEq,↓reduceIte,Na,Nb,Nc,Nk,Nf,Ng,Nh,Za,Zb,Zc,TT]
     ·rintro G5 E5 s5 a5 w5 gp MN ⟨rfl,rfl⟩
      exact ⟨rfl,G5,gp,MN⟩
    ·rintro lp i x G4 a4 W hx Cs
     refine wpIn_block ?_
     have hi : i < m:=by
      have:=(List.getElem?_eq_some_iff.1 hx).1
      simpa using this
     obtain rfl : pg ((Sha.pad l).map ah) i = x:=by simpa [hi] using hx
     obtain ⟨Zs,eV⟩:=AH (Sha.pad l) i (by omega)
     refine kN (l:=some lp) (K:=fun E' s'=>s' = s3.set o3 (dV (Sha.hash (Sha.pad l) (i + 1)))) ?_ Cs ?_
     ·simp only [↓DN,Qa,Qb,Qc,Qd,Qe,Qf,Qg,Qh,reduceCtorEq,↓reduceIte,Na,Nb,Nc,Nk,Nf,Ng,Nh,Za,Zb,Zc,TT,g3]
      rw [Zs]
      have Hp:=Ik hG (Sha.hash (Sha.pad l) i) (Sha.GL _ i) (Sha.mH (Sha.pad l) i) eV (s3.set o3 (dV (Sha.hash (Sha.pad l) i)))
      rw [aj,eV] at Hp
      refine ad (ai.gz (.cons (.refl _) (.cons AV.bQ .nil)) Hp) ?_
      rintro r sd ⟨rfl,rfl⟩
      simp only [↓DN,Qa,Qb,Qc,Qd,Qe,Qf,Qg,Qh,reduceCtorEq,↓reduceIte,Na,Nb,Nc,Nk,Nf,Ng,Nh,Za,Zb,Zc,TT,g3]
      rfl
     ·rintro G5 E5 s5 a5 w5 gp MN rfl
      exact ⟨rfl,G5,gp,MN.st⟩
    ·rintro x a4 w4 ⟨rfl,D,G4,ib,hD,hDk,rfl,L9⟩
     have L5 : ((List.range m).map (pg ((Sha.pad l).map ah))).length = m:=by simp
     rw [L5] at L9
     obtain ⟨u,hu⟩ : ∃ u,u = Sha.hash (Sha.pad l) m:=⟨_,rfl⟩
     have RS : u.bytes = Sha.sum l:=by rw [hu,Sha.sum,hm,Nat.mul_div_cancel_left _ (by decide)]
     rw [← hu] at L9
     have P1 : s1.le (s3.set o3 (dV u)):=by
      refine AS.aE (AS.le.trans ?_ Zn) zl _
      exact AS.aE (AS.le.refl s1) zl _
     have B4 : (s3.set o3 (dV u)).av o3 = some (dV u):=AS.ae _ _ _
     obtain ⟨s4,xa6⟩ : ∃ s4,s4 = s3.set o3 (dV u):=⟨_,rfl⟩
     rw [← xa6] at L9 P1 B4
     show Code.wpIn Fence.wide 0 _ _ _ _ w4
     refine ch.behind (Q:=b8 prog f164.results.toList (fun r s'=>dE s1 (Sha.sum l) r s')) p5 ib hDk L9 XC ?_ ?_
     ·refine jA ?_
      refine wK fun K hK=>?_
      refine jB (Ai @g3 @B4) ?_
      refine ag ?_
      obtain ⟨Z0,hZ0⟩ : ∃ Z0,Z0 = dV u:=⟨_,rfl⟩
      refine aC (fun E s2=>∃ i : Nat,i≤8∧E 17 = .agg Z0∧E 18 = .v (.int .i64 i)∧dE s1 (Im u i) (E 5) s2)
       (fun E _=>match E 18 with | .v (.int _ i)=>8 - i.toNat | _=>0) ?_ ?_
      ·exact ⟨0,by omega,by simp only [aF,Nc,↓reduceIte,hZ0],by simp only [aF,↓reduceIte]; rfl,P1,.inl ⟨rfl,by simp only [aF,Nc,↓reduceIte]⟩⟩
      ·rintro E5 s5 ⟨i,hi,p17,XE,xW⟩ -
       by_cases aX : i < 8
       ·have fu : (i : Int) < 8:=by omega
        have fX : (0 : Int)≤(i : Int):=by omega
        refine jB (Ai @XE (decide_eq_true fu)) ?_
        refine wK fun K2 aV=>?_
        refine jE ?_
        refine ab ?_
        refine aV _ _ ?_;clear aV K2
        refine wK fun K3 br=>?_
        refine ag ?_
        have fJ:=N4 u i aX
        rw [← hZ0] at fJ
        have sL:=AJ u i aX
        have N5:=D1 u i hi
        generalize u.list.getD i 0 = x at *
        have JD : eC .u32 (x : Int) 24 = ((x / 2 ^ 24 : Nat) : Int):=tZ x 24 (by decide)
        have IM : eC .u32 (x : Int) 16 = ((x / 2 ^ 16 : Nat) : Int):=tZ x 16 (by decide)
        have s8 : eC .u32 (x : Int) 8 = ((x / 2 ^ 8 : Nat) : Int):=tZ x 8 (by decide)
        refine jB (Ai @p17 (Ai @XE (Ai @fX (Ai @fu (Ai @c8 @fJ))))) ?_
        generalize sM : E5 5 = r6 at xW
        refine jU (Ai @sM (Ai @JD (Ai @IM (Ai @s8 @Xz)))) fun K hK=>?_
        refine cV (ds:=Sha.be x) xW rfl (by simp only [Sha.be,List.map_cons,List.map_nil,vZ]) T.c5 T.b5 (by rw [N5]; simp only [Sha.be,List.length_cons,List.length_nil]; omega) ?_
        intro r2 s6 h6
        rw [sL] at h6
        refine hK _ _ ?_
        clear hK
        simp only [az,ar,if_true,if_false]
        refine br _ _ ?_;clear br K3
        refine jD (Ai @XE (cE i (by omega))) ?_
        refine ⟨⟨i + 1,by omega,by simp only [aF,p17,Nc,↓reduceIte],by simp only [aF,↓reduceIte],by simpa only [aF,Nc,↓reduceIte] using h6⟩,?_⟩
        simp only [XE,aF,↓reduceIte]
        omega
       ·have fu : ¬ (i : Int) < 8:=by omega
        obtain rfl : i = 8:=by omega
        refine jB (Ai @XE (decide_eq_false fu)) ?_
        refine wK fun K2 aV=>?_
        refine jF ?_
        refine aA ?_
        simp only [az,ar,if_true]
        clear aV K2
        refine hK _ _ ?_;clear hK K
        rw [AK,RS] at xW
        generalize sM : E5 5 = r6 at xW
        refine jB @sM ?_
        refine aW ?_
        rw [results164]
        simp only [b8,bt,bD,cU,List.toList_toArray,↓ba]; try simp only [UP,DF,Nc,↓reduceIte,DT]
        exact ⟨_,_,AV.aB.refl _,AS.le.refl _,xW⟩
     ·intro e5 G5 E5 s5 a5 w5 gp hD5 xa7 MN RU
      refine ⟨?_,D,G5,E5,s5,GR.trans gp,?_,hD5,xa7,MN,?_⟩
      ·cases e5 <;> simp only [b8] at RU <;> simp
      ·have q1:=p5.st.below.size
       have q2:=p5.st.base
       rw [GR.w0] at q1
       rw [GR.B] at q2
       exact ⟨Nat.le_trans q1 hD,Nat.le_trans q2 hD⟩
      ·cases e5 <;> simp only [b8] at RU <;> exact RU
theorem N6 (n : Nat) (h : n≤2 ^ 45) : iF .u64 (cB .u64 (n : Int)) 8 = ((8 * n * 2 ^ (8 * 0) % 18446744073709551616 : Nat) : Int):=by
 rw [gh rfl,show (8 : Int) = ((8 : Nat) : Int) from rfl,Bh rfl];simp only [IntKind.bits];congr 1;omega
theorem KM (n j : Nat) (hj : j < 8) : cB .u8 (eC .u64 ((8 * n * 2 ^ (8 * j) % 18446744073709551616 : Nat) : Int) 56) = cB .u8 ((8 * n / 2 ^ (8 * (7 - j)) : Nat) : Int):=by
 rw [show (56 : Int) = ((56 : Nat) : Int) from rfl,gL,gh rfl,gh rfl];simp only [IntKind.bits];congr 1;rw [show min 56 64 = 56 from rfl];have : j = 0∨j = 1∨j = 2∨j = 3∨j = 4∨j = 5∨j = 6∨j = 7:=(by omega);rcases this with rfl | rfl | rfl | rfl | rfl | rfl | rfl | rfl <;> simp only [Nat.reduceMul,Nat.reduceSub,Nat.reducePow] <;> omega
theorem N7 (n j : Nat) (hj : j < 8) : jl .u64 ((8 * n * 2 ^ (8 * j) % 18446744073709551616 : Nat) : Int) 8 = ((8 * n * 2 ^ (8 * (j + 1)) % 18446744073709551616 : Nat) : Int):=by
 rw [show (8 : Int) = ((8 : Nat) : Int) from rfl,qE rfl];simp only [IntKind.bits];congr 1;rw [show min 8 64 = 8 from rfl];have : j = 0∨j = 1∨j = 2∨j = 3∨j = 4∨j = 5∨j = 6∨j = 7:=(by omega);rcases this with rfl | rfl | rfl | rfl | rfl | rfl | rfl | rfl <;> simp only [Nat.reduceMul,Nat.reduceAdd,Nat.reducePow] <;> omega
theorem B6 (l : List UInt8) (hl : l.length≤2 ^ 44) (s : AS) :
  ai prog Γ 209 [.v (.string ⟨l.toArray⟩)] s (fun r s'=>dE s (Sha.pad l) r s'):=by
 refine aa func209 rfl ntmps209 results209 (by simp) ?_;refine jA ?_;refine Br rfl (by decide) ?_;intro ops;refine jM ?_;refine ⟨fun r s'=>dE s l r s',fun G a w hr=>?_,?_⟩
 ·exact Bq (l:=l) (src:=9) (dst:=23) (e:=5) (x:=.tmp 6) rfl underlying9 underlying23 underlying5 (by simp only [aL,aF,↓reduceIte]) hr.eval hr.st
 intro r s1 h1;simp only [↓DN,Qa,Qb,Qc,Qd,Qe,Qf,Qg,Qh,reduceCtorEq,↓reduceIte,Na,Nb,Nc,Nk,Nf,Ng,Nh,Za,Zb,Zc,TT,List.replicate_one,Nat.lt_irrefl];refine cV (ds:=[128]) h1 rfl rfl T.c5 T.b5 (by simp; omega) ?_;intro r2 s2 h2;refine wK fun K hK=>?_;refine ag ?_;refine aC (fun E s2=>∃ k : Nat,k≤Sha.ga l.length∧E 0 = .v (.string ⟨l.toArray⟩)∧dE s (l ++ [128] ++ List.replicate k 0) (E 3) s2)
  (fun E s2=>match E 3 with | .sl _ n _ _=>l.length + 1 + Sha.ga l.length - n | _=>0) ?_ ?_
 ·exact ⟨0,Nat.zero_le _,by simp only [aF,bz,Nc,↓reduceIte,List.getD_cons_zero],by simpa only [aF,↓reduceIte,List.replicate_zero,List.append_nil] using h2⟩
 ·rintro E2 s3 ⟨k,hk,g0',qW⟩ -
  refine wK fun K2 aV=>?_;obtain ⟨t,e,g0⟩:=cg qW (by simp);have hlen : (l ++ [128] ++ List.replicate k 0).length = l.length + 1 + k:=(by simp; omega);generalize hL : l ++ [128] ++ List.replicate k 0 = L at *
  have hLn : L≠[]:=(by intro e'; rw [e'] at hlen; simp only [List.length_nil] at hlen; omega);by_cases sr : k = Sha.ga l.length
  ·have h56 : L.length % 64 = 56:=(by rw [hlen,sr,Sha.ga]; omega);have hb:=PY (show ((L.length % 64 : Nat) : Int) = 56 by omega);refine jB (Ai @g0 (Ai @GQ @hb)) ?_;refine wC fun X Y hX hY=>?_;refine jP (Ai @DB @hb) ?_;refine hY ?_;clear hX hY X Y;refine aA ?_;simp only [az,ar,if_true];clear aV K2;refine hK _ _ ?_;clear hK K;rw [← g0];have N5:=N6 l.length (by omega);refine jB (Ai @g0' (Ai @dB @N5)) ?_;refine wK fun K hK=>?_;refine jA ?_;refine ag ?_;refine aC (fun E s2=>∃ j : Nat,j≤8∧E 4 = .v (.int .u64 ((8 * l.length * 2 ^ (8 * j) % 18446744073709551616 : Nat) : Int))∧E 5 = .v (.int .i64 j)∧dE s (L ++ (Sha.vC l.length).take j) (E 3) s2)
    (fun E s2=>match E 5 with | .v (.int _ i)=>8 - i.toNat | _=>0) ?_ ?_
   ·exact ⟨0,by omega,by simp only [aF,Nc,↓reduceIte,Nat.mul_zero,Nat.pow_zero,Nat.mul_one],rfl,by simpa only [aF,Nc,↓reduceIte,List.take_zero,List.append_nil] using qW⟩
   ·rintro E3 s4 ⟨j,hj,f4,f5,vD⟩ -
    refine wK fun K2 aV=>?_;by_cases jZ : j < 8
    ·have cz : (j : Int) < 8:=(by omega);refine jB (Ai @f5 (decide_eq_true cz)) ?_;refine jE ?_;refine ab ?_;refine aV _ _ ?_;clear aV K2;refine wK fun K3 br=>?_;refine ag ?_;have hby:=KM l.length j jZ;have hsh:=N7 l.length j jZ;generalize 8 * l.length * 2 ^ (8 * j) % 18446744073709551616 = y at *
     generalize sM : E3 3 = r6 at vD;refine wS fun K hK=>?_;simp only [↓DN,Qa,Qb,Qc,Qd,Qe,Qf,Qg,Qh,reduceCtorEq,↓reduceIte,Na,Nb,Nc,Nk,Nf,Ng,Nh,Za,Zb,Zc,TT,sM,f4,hby,List.replicate_one,Nat.lt_irrefl];refine cV (ds:=[UInt8.ofNat (8 * l.length / 2 ^ (8 * (7 - j)))]) vD rfl (by rw [List.map_cons,vZ]; rfl) T.c5 T.b5 (by rw [List.length_append,List.length_take,hlen]; unfold Sha.ga at hk; simp only [List.length_cons,List.length_nil]; omega) ?_;intro r2 s5 h5;rw [List.append_assoc,← DY _ _ _ (DW l.length j jZ)] at h5;refine hK _ _ ?_;clear hK K;refine jD (Ai @f4 @hsh) ?_;simp only [az,ar,if_true,if_false];refine br _ _ ?_;clear br K3;refine jD (Ai @f5 (cE j (by omega))) ?_;refine ⟨⟨j + 1,by omega,rfl,rfl,by simpa only [aF,Nc,↓reduceIte] using h5⟩,?_⟩;simp only [f5,aF,↓reduceIte];omega
    ·have cz : ¬ (j : Int) < 8:=(by omega);obtain rfl : j = 8:=(by omega);refine jB (Ai @f5 (decide_eq_false cz)) ?_;refine jF ?_;refine aA ?_;simp only [az,ar,if_true];clear aV K2;refine hK _ _ ?_;clear hK K;have pK : L ++ (Sha.vC l.length).take 8 = Sha.pad l:=by
      rw [← hL,sr,Sha.pad,show (Sha.vC l.length).take 8 = Sha.vC l.length from rfl];simp
     rw [pK] at vD;generalize sM : E3 3 = r6 at vD;refine jB @sM ?_;refine jI ?_;exact ⟨_,_,AV.aB.refl _,AS.le.refl _,vD⟩
  ·have h56 : L.length % 64≠56:=(by rw [hlen]; unfold Sha.ga at hk sr; omega);have hb:=PX (show ((L.length % 64 : Nat) : Int)≠56 by omega);refine jB (Ai @g0 (Ai @GQ @hb)) ?_;refine wC fun X Y hX hY=>?_;refine jP (Ai @DB @hb) ?_;refine hX ?_;clear hX hY X Y;refine ab ?_;refine aV _ _ ?_;clear aV K2;refine ag ?_;generalize sM : E2 3 = r6 at qW;refine wE fun K hK=>?_;simp only [↓DN,Qa,Qb,Qc,Qd,Qe,Qf,Qg,Qh,reduceCtorEq,↓reduceIte,Na,Nb,Nc,Nk,Nf,Ng,Nh,Za,Zb,Zc,TT,sM,List.replicate_one,Nat.lt_irrefl];refine cV (ds:=[0]) qW rfl rfl T.c5 T.b5 (by rw [hlen]; unfold Sha.ga at hk; simp; omega) ?_;intro r2 s2 h2;have hL2 : L ++ [0] = l ++ [128] ++ List.replicate (k + 1) 0:=(by rw [← hL,List.replicate_succ',List.append_assoc _ (List.replicate k 0)]);rw [hL2] at h2;refine hK _ _ ?_;clear hK K;simp only [az,ar,if_true,if_false];obtain ⟨t2,e2,q0⟩:=cg h2 (by simp);refine ⟨⟨k + 1,by omega,g0',by simpa only [aF,↓reduceIte] using h2⟩,?_⟩;rw [sM] at g0;simp only [aF,↓reduceIte,sM,q0,g0,List.length_append,List.length_replicate,List.length_cons,List.length_nil,hlen];omega
theorem N8 (a b c d : UInt8) : EA .u32 (EA .u32 (EA .u32 (jl .u32 (cB .u32 (a.toNat : Int)) 24) (jl .u32 (cB .u32 (b.toNat : Int)) 16)) (jl .u32 (cB .u32 (c.toNat : Int)) 8)) (cB .u32 (d.toNat : Int)) = ((Sha.FI a.toNat b.toNat c.toNat d.toNat : Nat) : Int):=by
 have ha:=a.toNat_lt; have hb:=b.toNat_lt; have hc:=c.toNat_lt; have hd:=d.toNat_lt;have e1 : ∀ x : UInt8,cB .u32 (x.toNat : Int) = ((x.toNat : Nat) : Int):=fun x=>by
  have:=x.toNat_lt;rw [gh rfl];simp only [IntKind.bits];congr 1;omega
 have JD : ∀ x : Nat,x < 256→jl .u32 (x : Int) 24 = ((x * 16777216 : Nat) : Int):=fun x hx=>by
  have:=KD x 24 (by decide);rw [show ((24 : Nat) : Int) = 24 from rfl] at this;rw [this];congr 1;simp only [Nat.reducePow];omega
 have IM : ∀ x : Nat,x < 256→jl .u32 (x : Int) 16 = ((x * 65536 : Nat) : Int):=fun x hx=>by
  have:=KD x 16 (by decide);rw [show ((16 : Nat) : Int) = 16 from rfl] at this;rw [this];congr 1;simp only [Nat.reducePow];omega
 have s8 : ∀ x : Nat,x < 256→jl .u32 (x : Int) 8 = ((x * 256 : Nat) : Int):=fun x hx=>by
  have:=KD x 8 (by decide);rw [show ((8 : Nat) : Int) = 8 from rfl] at this;rw [this];congr 1;simp only [Nat.reducePow];omega
 rw [e1,e1,e1,e1];generalize a.toNat = a at *
 generalize b.toNat = b at *
 generalize c.toNat = c at *
 generalize d.toNat = d at *
 rw [JD a ha,IM b hb,s8 c hc];have o1 : a * 16777216 ||| b * 65536 = a * 16777216 + b * 65536:=by
  have:=Nat.shiftLeft_add_eq_or_of_lt (b:=b * 65536) (i:=24) (by simp only [Nat.reducePow]; omega) a;rw [Nat.shiftLeft_eq] at this;simp only [Nat.reducePow] at this;exact this.symm
 have o2 : (a * 16777216 + b * 65536) ||| c * 256 = a * 16777216 + b * 65536 + c * 256:=by
  have:=Nat.shiftLeft_add_eq_or_of_lt (b:=c * 256) (i:=16) (by simp only [Nat.reducePow]; omega) (a * 256 + b);rw [Nat.shiftLeft_eq] at this;simp only [Nat.reducePow] at this;have e : (a * 256 + b) * 65536 = a * 16777216 + b * 65536:=(by simp only [Nat.add_mul,Nat.mul_assoc,Nat.reduceMul]);rw [e] at this;exact this.symm
 have o3 : (a * 16777216 + b * 65536 + c * 256) ||| d = a * 16777216 + b * 65536 + c * 256 + d:=by
  have:=Nat.shiftLeft_add_eq_or_of_lt (b:=d) (i:=8) (by simp only [Nat.reducePow]; omega) (a * 65536 + b * 256 + c);rw [Nat.shiftLeft_eq] at this;simp only [Nat.reducePow] at this;have e : (a * 65536 + b * 256 + c) * 256 = a * 16777216 + b * 65536 + c * 256:=(by simp only [Nat.add_mul,Nat.mul_assoc,Nat.reduceMul]);rw [e] at this;exact this.symm
 rw [Xr _ _ (by omega) (by omega),o1,Xr _ _ (by omega) (by omega),o2,Xr _ _ (by omega) (by omega),o3,Sha.FI];simp only [Nat.add_mul,Nat.mul_assoc,Nat.reduceMul]
structure Kp (oh m : Nat) (pl : List UInt8) (sp : Sp) (i : Nat) (E : Env) : Prop where
 h3 : E 3 = .iv oh 0 1 8 8
 h4 : E 4 = .sl 1 64 (Sha.K.map wV) .no
 h5 : E 5 = .sl 1 (64 * m) (pl.map ah) sp
 h6 : E 6 = .v (.int .i64 ((64 * i : Nat) : Int))
theorem Kp.aF {oh m i d : Nat} {pl : List UInt8} {sp : Sp} {E : Env} {v : AV} (h : Kp oh m pl sp i E) (hd : d≠3∧d≠4∧d≠5∧d≠6) : Kp oh m pl sp i (aF E d v) :=
 ⟨by rw [gF _ _ (Ne.symm hd.1)]; exact h.h3,by rw [gF _ _ (Ne.symm hd.2.1)]; exact h.h4,by rw [gF _ _ (Ne.symm hd.2.2.1)]; exact h.h5,by rw [gF _ _ (Ne.symm hd.2.2.2)]; exact h.h6⟩
structure Kq (ow : Nat) (E : Env) : Prop where
 h7 : E 7 = .iv ow 0 1 64 64
theorem Kq.aF {ow d : Nat} {E : Env} {v : AV} (h : Kq ow E) (hd : d≠7) : Kq ow (aF E d v):=⟨by rw [gF _ _ (Ne.symm hd)]; exact h.h7⟩
structure Kr (cs : List AV) (sp : Sp) (E : Env) : Prop where
 Kk : E 13 = .sl 1 8 cs sp
theorem Kr.aF {cs : List AV} {sp : Sp} {d : Nat} {E : Env} {v : AV} (h : Kr cs sp E) (hd : d≠13) : Kr cs sp (aF E d v):=⟨by rw [gF _ _ (Ne.symm hd)]; exact h.Kk⟩
theorem xa8 (l : List UInt8) (i : Nat) (h : i < l.length) : List.take 1 (List.drop i (l.map ah)) = [.v (.int .u8 ((l.getD i 0).toNat : Int))]:=by
 have : (l.map ah)[i]? = some (ah (l.getD i 0)):=by
  rw [List.getElem?_map,List.getElem?_eq_getElem h];simp only [Option.map_some,List.getD,List.getElem?_eq_getElem h,Option.getD_some]
 rw [drop_cons _ _ _ this];rfl
theorem KN (l : List UInt8) (i : Nat) (h : i < l.length) : List.map ah (List.take 1 (List.drop i l)) = [.v (.int .u8 ((l.getD i 0).toNat : Int))]:=by
 rw [List.map_take,List.map_drop];exact xa8 l i h
theorem KO (l : List UInt8) (i j : Nat) (h : j < 64) (hl : 64 * i + j < l.length) : (Sha.mH l i).getD j 0 = l.getD (64 * i + j) 0:=by
 simp only [Sha.mH,List.getD_eq_getElem?_getD,List.getElem?_take,if_pos h,List.getElem?_drop]
theorem xa9 (x : AV) : List.replicate 8 x = [x,x,x,x,x,x,x,x]:=rfl
theorem XF (l : List Nat) (i : Nat) (h : i < l.length) : List.drop i (l.map wV) = wV (l.getD i 0) :: List.drop (i + 1) (l.map wV):=drop_cons _ _ _ (xQ l i h)
theorem np (l : List UInt8) (hl : l.length≤2 ^ 40) (s : AS) :
  ai prog Γ 170 [.v (.string ⟨l.toArray⟩)] s (fun r s'=>r = .v (.string ⟨(Sha.sum l).toArray⟩)∧s' = s):=by
 refine aa func170 rfl ntmps170 results170 (by simp) ?_;refine jA ?_;refine Bn rfl (by decide) (fun r s'=>∃ ob,s.av ob = none∧r = .iv ob 0 (prog.cellsOf 214) 8 8∧s' = s.set ob (dV Sha.H0)) (fun G a w hr=>?_) ?_
 ·exact Dk (cs:=dV Sha.H0) (e:=214) rfl underlying227 T.Q4 (by rw [T.Bw]; decide) (by rw [T.Bw]; decide) (by rw [T.Bw]; rfl) (by simp only [T.Bw]; rfl) hr.eval hr.st
 rw [T.Bw];rintro r s1 ⟨oh,hoh,rfl,rfl⟩;refine jM ?_;refine jK (FK _) ?_;rintro s2 rfl;refine jQ fun K hK=>?_;refine ad (B6 l (by omega) _) ?_;intro r s1 bx;have vj:=Sha.qU l;have hpm:=Sha.GK l;obtain ⟨m,hm⟩ : ∃ m,(Sha.pad l).length = 64 * m:=⟨(Sha.pad l).length / 64,by omega⟩;have hz : Sha.ga l.length < 64:=(by rw [Sha.ga]; omega);have XD : 64 * m≤2 ^ 41:=(by omega);obtain ⟨tk,e,Et⟩:=cg bx (by rw [← List.length_pos_iff]; omega);rw [hm] at Et;subst Et;have hle : s.le s1:=AS.le.trans (AS.aE (AS.le.refl s) hoh _) bx.1;have zn : s1.av oh = some (dV Sha.H0):=bx.1.av _ _ (AS.ae _ _ _);clear bx;refine jR hK ?_;clear hK K;have MR : (Sha.hash (Sha.pad l) m).bytes = Sha.sum l:=(by rw [Sha.sum,hm,Nat.mul_div_cancel_left _ (by decide)]);obtain ⟨pl,xba⟩ : ∃ pl,pl = Sha.pad l:=⟨_,rfl⟩;rw [← xba] at hm MR ⊢;refine wK fun K hK=>?_;refine jA ?_;refine ag ?_;refine aC (fun E s2=>∃ i : Nat,i≤m∧Kp oh m pl (.own tk e) i E∧s2.av oh = some (dV (Sha.hash pl i))∧s.le s2)
  (fun E _=>match E 6 with | .v (.int _ x)=>64 * m - x.toNat | _=>0) ?_ ?_
 ·exact ⟨0,Nat.zero_le _,⟨rfl,rfl,rfl,rfl⟩,zn,hle⟩
 ·rintro E1 s2 ⟨i,hi,hk,ho,hle⟩ -
  have e6:=hk.h6;have Xy:=hk.h6;refine wK fun K2 aV=>?_;by_cases aX : i < m
  ·have bI : ((64 * i : Nat) : Int) < ((64 * m : Nat) : Int):=(by omega);refine jB (Ai @e6 (Ai @hk.h5 (decide_eq_true bI))) ?_;refine jE ?_;refine ab ?_;refine aV _ _ ?_;clear aV K2;refine wK fun K3 br=>?_;refine ag ?_;have eV : (Sha.mH pl i).length = 64:=(AH pl i (by omega)).2;have XG : ∀ j,j < 64→(Sha.mH pl i).getD j 0 = pl.getD (64 * i + j) 0:=fun j hj=>KO pl i j hj (by omega);have Zt : ∀ j,j < 64 * m→List.map ah (List.take 1 (List.drop j pl)) = [.v (.int .u8 ((pl.getD j 0).toNat : Int))]:=fun j hj=>KN pl j (by omega);obtain ⟨c,hc⟩ : ∃ c,c = Sha.mH pl i:=⟨_,rfl⟩;rw [← hc] at eV XG;have PG : Sha.hash pl (i + 1) = Sha.mix (Sha.hash pl i) c:=(by rw [hc]; rfl);have iG:=Sha.GL pl i;generalize xgD : Sha.hash pl i = st at *
   refine jQ fun K hK=>?_;refine ⟨by decide,by decide,fun ow how=>?_⟩;have hwh : ow≠oh:=(fun e'=>by rw [e',ho] at how; cases how);have RV : s.av ow = none:=by
    cases hs : s.av ow with
    | none=>rfl
    | some cs=>rw [hle.av _ _ hs] at how; cases how
   refine hK _ _ ?_;clear hK;rw [show List.replicate 64 (AV.v (.int .u32 0)) = row c 0 from rfl];obtain ⟨E2,Zu⟩ : ∃ E2,E2 = (aF (aF (aF (aF (aF (aF E1 24 (AV.v (Value.int IntKind.i64 ((64 * i : Nat) : Int)))) 25 (AV.sl 1 (64 * m) (List.map ah pl) (Sp.own tk e))) 26 (AV.v (Value.int IntKind.i64 ((64 * m : Nat) : Int)))) 27 (AV.v (Value.bool true))) 30 (AV.iv ow 0 1 64 64)) 7 (AV.iv ow 0 1 64 64)):=⟨_,rfl⟩;have hk : Kp oh m pl (.own tk e) i E2:=by
    rw [Zu];repeat (first | exact hk | refine Kp.aF ?_ (by decide))
   have hq : Kq ow E2:=⟨by rw [Zu]; simp only [aF,↓reduceIte]⟩;rw [← Zu];clear Zu e6;refine wK fun K4 ee=>?_;refine jA ?_;refine ag ?_;refine aC (fun E s3=>∃ t : Nat,t≤16∧Kp oh m pl (.own tk e) i E∧Kq ow E∧E 8 = .v (.int .i64 t)∧s3.av ow = some (row c t)∧s3.av oh = some (dV st)∧s.le s3)
    (fun E _=>match E 8 with | .v (.int _ x)=>16 - x.toNat | _=>0) ?_ ?_
   ·exact ⟨0,by omega,(by repeat (first | exact hk | exact hq | refine Kp.aF ?_ (by decide) | refine Kq.aF ?_ (by decide))),(by repeat (first | exact hk | exact hq | refine Kp.aF ?_ (by decide) | refine Kq.aF ?_ (by decide))),rfl,AS.ae _ _ _,by rw [AS.ao _ hwh.symm]; exact ho,AS.aE hle RV _⟩
   ·rintro E3 s3 ⟨t,ht,hk,hq,g8,jw,jh,gb⟩ -
    refine wK fun K5 kt=>?_;by_cases wh : t < 16
    ·have bI : (t : Int) < 16:=(by omega);refine jB (Ai @g8 (decide_eq_true bI)) ?_;refine jE ?_;refine ab ?_;refine kt _ _ ?_;clear kt K5;refine wK fun K6 kV=>?_;refine ag ?_;have a0 : dP .i64 ((64 * i : Nat) : Int) ((4 * t : Nat) : Int) = ((64 * i + 4 * t : Nat) : Int):=fD _ _ (by omega);have a1 : dP .i64 ((64 * i + 4 * t : Nat) : Int) 1 = ((64 * i + 4 * t + 1 : Nat) : Int):=fD _ 1 (by omega);have a2 : dP .i64 ((64 * i + 4 * t : Nat) : Int) 2 = ((64 * i + 4 * t + 2 : Nat) : Int):=fD _ 2 (by omega);have a3 : dP .i64 ((64 * i + 4 * t : Nat) : Int) 3 = ((64 * i + 4 * t + 3 : Nat) : Int):=fD _ 3 (by omega);have XH : Sha.word c (Sha.lk c t) t = Sha.FI (pl.getD (64 * i + 4 * t) 0).toNat (pl.getD (64 * i + 4 * t + 1) 0).toNat (pl.getD (64 * i + 4 * t + 2) 0).toNat (pl.getD (64 * i + 4 * t + 3) 0).toNat:=by
      rw [Sha.word,if_pos wh,XG _ (by omega),XG _ (by omega),XG _ (by omega),XG _ (by omega)];rfl
     have ck:=vY c t (by omega);rw [XH] at ck;simp only [wV] at ck;rw [← N8] at ck;have p0:=Zt (64 * i + 4 * t) (by omega);have p1:=Zt (64 * i + 4 * t + 1) (by omega);have p2:=Zt (64 * i + 4 * t + 2) (by omega);have p3:=Zt (64 * i + 4 * t + 3) (by omega);have b0 : ((64 * i + 4 * t : Nat) : Int) < ((64 * m : Nat) : Int):=(by omega);have b1 : ((64 * i + 4 * t + 1 : Nat) : Int) < ((64 * m : Nat) : Int):=(by omega);have b2 : ((64 * i + 4 * t + 2 : Nat) : Int) < ((64 * m : Nat) : Int):=(by omega);have b3 : ((64 * i + 4 * t + 3 : Nat) : Int) < ((64 * m : Nat) : Int):=(by omega);have q0 : (0 : Int)≤((64 * i + 4 * t : Nat) : Int):=(by omega);have q1 : (0 : Int)≤((64 * i + 4 * t + 1 : Nat) : Int):=(by omega);have q2 : (0 : Int)≤((64 * i + 4 * t + 2 : Nat) : Int):=(by omega);have q3 : (0 : Int)≤((64 * i + 4 * t + 3 : Nat) : Int):=(by omega);have lh : (0 : Int)≤(t : Int):=(by omega);have KP : (t : Int) < ((64 : Nat) : Int):=(by omega);have hlen:=cS c t (by omega);generalize pl.getD (64 * i + 4 * t) 0 = x0 at *
     generalize pl.getD (64 * i + 4 * t + 1) 0 = x1 at *
     generalize pl.getD (64 * i + 4 * t + 2) 0 = x2 at *
     generalize pl.getD (64 * i + 4 * t + 3) 0 = x3 at *
     obtain ⟨R,hR⟩ : ∃ R,R = row c t:=⟨_,rfl⟩;rw [← hR] at ck hlen jw;refine jB (Ai @hk.h6 (Ai @g8 (Ai (DR t (by omega)) @a0))) ?_;refine fe T.mixed [32] (by kernel_rfl) ?_;intro K hK;refine jN (Ai @hk.h5 (Ai @hq.h7 (Ai @g8 (Ai @a1 (Ai @a2 (Ai @a3 (Ai @q0 (Ai @q1 (Ai @q2 (Ai @q3 (Ai @b0 (Ai @b1 (Ai @b2 (Ai @b3 (Ai @p0 (Ai @p1 (Ai @p2 (Ai @p3 (Ai @lh (Ai @KP (Ai @jw (Ai @ck @hlen)))))))))))))))))))))) ?_;refine ⟨by omega,hK _ _ ?_⟩;clear hK;simp only [az,ar,if_true,if_false];refine kV _ _ ?_;clear kV K6;refine jD (Ai @g8 (cE t (by omega))) ?_;refine ⟨⟨t + 1,by omega,(by repeat (first | exact hk | exact hq | refine Kp.aF ?_ (by decide) | refine Kq.aF ?_ (by decide))),(by repeat (first | exact hk | exact hq | refine Kp.aF ?_ (by decide) | refine Kq.aF ?_ (by decide))),rfl,AS.ae _ _ _,by rw [AS.ao _ hwh.symm]; exact jh,AS.aE gb RV _⟩,?_⟩;simp only [g8,aF,↓reduceIte];omega
    ·have bI : ¬ (t : Int) < 16:=(by omega);obtain rfl : t = 16:=(by omega);refine jB (Ai @g8 (decide_eq_false bI)) ?_;refine jF ?_;refine aA ?_;simp only [az,ar,if_true];clear kt K5;refine ee _ _ ?_;clear ee K4;have hk : Kp oh m pl (.own tk e) i (aF (aF E3 31 (AV.v (.int .i64 ((16 : Nat) : Int)))) 32 (AV.v (.bool false))):=(by repeat (first | exact hk | exact hq | refine Kp.aF ?_ (by decide) | refine Kq.aF ?_ (by decide)));have hq : Kq ow (aF (aF E3 31 (AV.v (.int .i64 ((16 : Nat) : Int)))) 32 (AV.v (.bool false))):=(by repeat (first | exact hk | exact hq | refine Kp.aF ?_ (by decide) | refine Kq.aF ?_ (by decide)));generalize (aF (aF E3 31 (AV.v (.int .i64 ((16 : Nat) : Int)))) 32 (AV.v (.bool false))) = E4 at *
     clear g8;refine wK fun K4 ee=>?_;refine jA ?_;refine ag ?_;refine aC (fun E s3=>∃ t : Nat,16≤t∧t≤64∧Kp oh m pl (.own tk e) i E∧Kq ow E∧E 10 = .v (.int .i64 t)∧s3.av ow = some (row c t)∧s3.av oh = some (dV st)∧s.le s3)
      (fun E _=>match E 10 with | .v (.int _ x)=>64 - x.toNat | _=>0) ?_ ?_
     ·exact ⟨16,by omega,by omega,(by repeat (first | exact hk | exact hq | refine Kp.aF ?_ (by decide) | refine Kq.aF ?_ (by decide))),(by repeat (first | exact hk | exact hq | refine Kp.aF ?_ (by decide) | refine Kq.aF ?_ (by decide))),rfl,jw,jh,gb⟩
     ·rintro E5 s4 ⟨t,ht,Ry,hk,hq,g10,jw,jh,ib⟩ -
      refine wK fun K5 kt=>?_;by_cases wh : t < 64
      ·have bI : (t : Int) < 64:=(by omega);refine jB (Ai @g10 (decide_eq_true bI)) ?_;refine jE ?_;refine ab ?_;refine kt _ _ ?_;clear kt K5;refine wK fun K6 kV=>?_;refine ag ?_;have lh : (0 : Int)≤(t : Int):=(by omega);have KP : (t : Int) < ((64 : Nat) : Int):=(by omega);have n2 : (0 : Int)≤((t - 2 : Nat) : Int):=(by omega);have n7 : (0 : Int)≤((t - 7 : Nat) : Int):=(by omega);have n15 : (0 : Int)≤((t - 15 : Nat) : Int):=(by omega);have n16 : (0 : Int)≤((t - 16 : Nat) : Int):=(by omega);have m2 : ((t - 2 : Nat) : Int) < ((64 : Nat) : Int):=(by omega);have m7 : ((t - 7 : Nat) : Int) < ((64 : Nat) : Int):=(by omega);have PV : ((t - 15 : Nat) : Int) < ((64 : Nat) : Int):=(by omega);have NX : ((t - 16 : Nat) : Int) < ((64 : Nat) : Int):=(by omega);have w2 : dC .i64 (t : Int) 2 = ((t - 2 : Nat) : Int):=gi t 2 (by omega) (by omega);have w7 : dC .i64 (t : Int) 7 = ((t - 7 : Nat) : Int):=gi t 7 (by omega) (by omega);have w15 : dC .i64 (t : Int) 15 = ((t - 15 : Nat) : Int):=gi t 15 (by omega) (by omega);have XI : dC .i64 (t : Int) 16 = ((t - 16 : Nat) : Int):=gi t 16 (by omega) (by omega);have d2:=ji c t (t - 2) (by omega);have d7:=ji c t (t - 7) (by omega);have d15:=ji c t (t - 15) (by omega);have d16:=ji c t (t - 16) (by omega);have hw : Sha.word c (Sha.lk c t) t = Sha.dT (Sha.dT (Sha.dT (Sha.B2 ((Sha.lk c t).getD (t - 2) 0) 17 19 10) ((Sha.lk c t).getD (t - 7) 0)) (Sha.B2 ((Sha.lk c t).getD (t - 15) 0) 7 18 3)) ((Sha.lk c t).getD (t - 16) 0):=(by rw [Sha.word,if_neg (by omega)]);have ck:=vY c t wh;rw [hw] at ck;have hlen:=cS c t Ry;have l2:=Sha.lK c t (t - 2);have NY:=Sha.lK c t (t - 15);generalize (Sha.lk c t).getD (t - 2) 0 = y at *
       generalize (Sha.lk c t).getD (t - 7) 0 = x7 at *
       generalize (Sha.lk c t).getD (t - 15) 0 = x at *
       generalize (Sha.lk c t).getD (t - 16) 0 = x16 at *
       obtain ⟨R,hR⟩ : ∃ R,R = row c t:=⟨_,rfl⟩;rw [← hR] at d2 d7 d15 d16 ck hlen jw;have y10 : eC .u32 (y : Int) 10 = ((y / 2 ^ 10 : Nat) : Int):=tZ y 10 (by decide);have x3 : eC .u32 (x : Int) 3 = ((x / 2 ^ 3 : Nat) : Int):=tZ x 3 (by decide);have v1:=oc _ _ (Sha.cc 17 l2) (Sha.cc 19 l2);have v2:=oc _ _ (Nat.xor_lt_two_pow (n:=32) (Sha.cc 17 l2) (Sha.cc 19 l2)) (Nat.lt_of_le_of_lt (Nat.div_le_self y (2 ^ 10)) l2);have v3:=oc _ _ (Sha.cc 7 NY) (Sha.cc 18 NY);have v4:=oc _ _ (Nat.xor_lt_two_pow (n:=32) (Sha.cc 7 NY) (Sha.cc 18 NY)) (Nat.lt_of_le_of_lt (Nat.div_le_self x (2 ^ 3)) NY);have u1 : (Sha.lz y 17 ^^^ Sha.lz y 19) ^^^ (y / 2 ^ 10) = Sha.B2 y 17 19 10:=rfl;have u2 : (Sha.lz x 7 ^^^ Sha.lz x 18) ^^^ (x / 2 ^ 3) = Sha.B2 x 7 18 3:=rfl;rw [u1] at v2;rw [u2] at v4;simp only [Nat.reducePow] at y10 x3 v2 v4;refine dL T.mixed [(ow,R)] [] [4,9] [] (by kernel_rfl) (by simp only [aG,aJ,and_true]; simp [AS.set,aF,jw]) ?_;intro K hK;simp only [↓bp,↓a7,dh,dd,aO,aS,aG,aJ,List.any_cons,List.any_nil,List.contains_cons,List.contains_nil,Nat.reduceBEq,Bool.or_false,Bool.or_true,Bool.or_self,Bool.false_or,↓DN,Qa,Qb,Qc,Qd,Qe,Qf,Qg,Qh,reduceCtorEq,↓reduceIte,Na,Nb,Nc,Nk,Nf,Ng,Nh,Za,Zb,Zc,TT,hq.h7,g10,w2,w15,n2,n15,m2,PV,d2,d15,jw];refine hK _ _ ?_;clear hK K;refine cH T.mixed [(ow,R)] [3,5,17,19] [14,29] [32] (by kernel_rfl) (by simp only [aG,aJ,and_true]; simp [AS.set,aF,jw]) ?_;intro K hK;simp only [↓bp,↓a7,dh,dd,aO,aS,aG,aJ,List.any_cons,List.any_nil,List.contains_cons,List.contains_nil,Nat.reduceBEq,Bool.or_false,Bool.or_true,Bool.or_self,Bool.false_or,↓DN,Qa,Qb,Qc,Qd,Qe,Qf,Qg,Qh,reduceCtorEq,↓reduceIte,Na,Nb,Nc,Nk,Nf,Ng,Nh,Za,Zb,Zc,TT,hq.h7,g10,w7,XI,n7,n16,m7,NX,d7,d16,jw];refine ad (dv y 17 l2 (by omega) (by omega) _) ?_;rintro r sa ⟨rfl,rfl⟩;simp only [↓cj,↓bM,bY,↓bp,↓a7,dh,dd,aO,aS,aG,aJ,List.any_cons,List.any_nil,DX,Nat.reduceBEq,↓DN,Qa,Qb,Qc,Qd,Qe,Qf,Qg,Qh,reduceCtorEq,↓reduceIte,Na,Nb,Nc,Nk,Nf,Ng,Nh,Za,Zb,Zc,TT,hq.h7,g10,w7,XI,n7,n16,m7,NX,d7,d16,jw];refine ad (dv y 19 l2 (by omega) (by omega) _) ?_;rintro r sb ⟨rfl,rfl⟩;simp only [↓cj,↓bM,bY,↓bp,↓a7,dh,dd,aO,aS,aG,aJ,List.any_cons,List.any_nil,DX,Nat.reduceBEq,↓DN,Qa,Qb,Qc,Qd,Qe,Qf,Qg,Qh,reduceCtorEq,↓reduceIte,Na,Nb,Nc,Nk,Nf,Ng,Nh,Za,Zb,Zc,TT,hq.h7,g10,w7,XI,n7,n16,m7,NX,d7,d16,jw,y10,v1,v2,sJ];refine ad (dv x 7 NY (by omega) (by omega) _) ?_;rintro r sc ⟨rfl,rfl⟩;simp only [↓cj,↓bM,bY,↓bp,↓a7,dh,dd,aO,aS,aG,aJ,List.any_cons,List.any_nil,DX,Nat.reduceBEq,↓DN,Qa,Qb,Qc,Qd,Qe,Qf,Qg,Qh,reduceCtorEq,↓reduceIte,Na,Nb,Nc,Nk,Nf,Ng,Nh,Za,Zb,Zc,TT,hq.h7,g10,w7,XI,n7,n16,m7,NX,d7,d16,jw,y10,v1,v2,sJ];refine ad (dv x 18 NY (by omega) (by omega) _) ?_;rintro r sd ⟨rfl,rfl⟩;simp only [↓cj,↓bM,bY,↓bp,↓a7,dh,dd,aO,aS,aG,aJ,List.any_cons,List.any_nil,DX,Nat.reduceBEq,↓DN,Qa,Qb,Qc,Qd,Qe,Qf,Qg,Qh,reduceCtorEq,↓reduceIte,Na,Nb,Nc,Nk,Nf,Ng,Nh,Za,Zb,Zc,TT,hq.h7,g10,w7,XI,n7,n16,m7,NX,d7,d16,jw,x3,v3,v4,sJ,lh,KP,ck,hlen];refine ⟨by omega,hK _ _ ?_⟩;clear hK;simp only [az,ar,if_true,if_false];refine kV _ _ ?_;clear kV K6;refine jD (Ai @g10 (cE t (by omega))) ?_;refine ⟨⟨t + 1,by omega,by omega,(by repeat (first | exact hk | exact hq | refine Kp.aF ?_ (by decide) | refine Kq.aF ?_ (by decide))),(by repeat (first | exact hk | exact hq | refine Kp.aF ?_ (by decide) | refine Kq.aF ?_ (by decide))),rfl,AS.ae _ _ _,by rw [AS.ao _ hwh.symm]; exact jh,AS.aE ib RV _⟩,?_⟩;simp only [g10,aF,↓reduceIte];omega
      ·have bI : ¬ (t : Int) < 64:=(by omega);obtain rfl : t = 64:=(by omega);refine jB (Ai @g10 (decide_eq_false bI)) ?_;refine jF ?_;refine aA ?_;simp only [az,ar,if_true];clear kt K5;refine ee _ _ ?_;clear ee K4;have hk : Kp oh m pl (.own tk e) i (aF (aF E5 71 (AV.v (.int .i64 ((64 : Nat) : Int)))) 72 (AV.v (.bool false))):=(by repeat (first | exact hk | exact hq | refine Kp.aF ?_ (by decide) | refine Kq.aF ?_ (by decide)));have hq : Kq ow (aF (aF E5 71 (AV.v (.int .i64 ((64 : Nat) : Int)))) 72 (AV.v (.bool false))):=(by repeat (first | exact hk | exact hq | refine Kp.aF ?_ (by decide) | refine Kq.aF ?_ (by decide)));generalize (aF (aF E5 71 (AV.v (.int .i64 ((64 : Nat) : Int)))) 72 (AV.v (.bool false))) = E6 at *
       clear g10;rw [DQ] at jw;obtain ⟨W,hW⟩ : ∃ W,W = Sha.lk c 64:=⟨_,rfl⟩;have Mc : W.length = 64:=(by rw [hW,Sha.cq]);have N0 : Sha.mix st c = st.add (Sha.rounds W st 64):=(by rw [hW]; rfl);rw [← hW] at jw;have xgF : (dV st).length = 8:=rfl;have xgG : List.take 8 (dV st) = dV st:=rfl;have xeC:=GN st;refine jS (Ai @hk.h3 @jh) fun K hK=>?_;intro tt htt;refine hK _ _ ?_;clear hK;have XJ : s.own tt = none:=by
        cases hs : s.own tt with
        | none=>rfl
        | some g=>rw [ib.own _ _ hs] at htt; cases htt
       have gp : s.le (s4.bC tt 0):=AS.bq ib XJ _;have jw5 : (s4.bC tt 0).av ow = some (W.map wV):=jw;have jh5 : (s4.bC tt 0).av oh = some (dV st):=jh;generalize s4.bC tt 0 = s5 at *
       refine wK fun K4 ee=>?_;refine jA ?_;refine ag ?_;refine aC (fun E s3=>∃ t : Nat,t≤64∧Kp oh m pl (.own tk e) i E∧Kq ow E∧(∃ Zv,Kr (dV (Sha.rounds W st t)) Zv E)∧E 14 = .v (.int .i64 t)∧s3.av ow = some (W.map wV)∧s3.av oh = some (dV st)∧s.le s3)
        (fun E _=>match E 14 with | .v (.int _ x)=>64 - x.toNat | _=>0) ?_ ?_
       ·exact ⟨0,by omega,(by repeat (first | exact hk | exact hq | refine Kp.aF ?_ (by decide) | refine Kq.aF ?_ (by decide))),(by repeat (first | exact hk | exact hq | refine Kp.aF ?_ (by decide) | refine Kq.aF ?_ (by decide))),⟨.own tt 0,by refine Kr.aF ?_ (by decide); exact ⟨rfl⟩⟩,rfl,jw5,jh5,gp⟩
       ·rintro E7 s6 ⟨t,ht,hk,hq,⟨Zv,hv⟩,g14,jw,jh,mD⟩ -
        refine wK fun K5 kt=>?_;have ka:=Sha.tY (w:=W) iG t;have xbd : Sha.rounds W st (t + 1) = (Sha.rounds W st t).step (Sha.K.getD t 0) (W.getD t 0):=rfl;generalize hu : Sha.rounds W st t = u at *
        by_cases wh : t < 64
        ·have bI : (t : Int) < 64:=(by omega);refine jB (Ai @g14 (decide_eq_true bI)) ?_;refine jE ?_;refine ab ?_;refine kt _ _ ?_;clear kt K5;refine wK fun K6 kV=>?_;refine ag ?_;have lh : (0 : Int)≤(t : Int):=(by omega);have KP : (t : Int) < ((64 : Nat) : Int):=(by omega);have hwd:=XF W t (by omega);have KJ:=XF Sha.K t (by rw [show Sha.K.length = 64 from rfl]; omega);generalize W.getD t 0 = wi at *
         generalize Sha.K.getD t 0 = ki at *
         obtain ⟨KL,hKL⟩ : ∃ KL,KL = Sha.K.map wV:=⟨_,rfl⟩;obtain ⟨WL,hWL⟩ : ∃ WL,WL = W.map wV:=⟨_,rfl⟩;have g4:=hk.h4;rw [← hKL] at KJ g4;rw [← hWL] at hwd jw;have xbe : List.take 1 (List.drop t KL) = [wV ki]:=(by rw [KJ]; rfl);have g13:=hv.Kk;have FN : ∀ {a b : Nat},a < 4294967296→b < 4294967296→a &&& b < 4294967296:=fun {a b} ha hb=>Nat.lt_of_le_of_lt Nat.and_le_left ha;have Xw : ∀ {a b : Nat},a < 4294967296→b < 4294967296→a ^^^ b < 4294967296:=fun {a b} ha hb=>Nat.xor_lt_two_pow (n:=32) ha hb;have hn : 4294967295 - u.e < 4294967296:=(by omega);have z1:=oc _ _ (Sha.cc 6 ka.e) (Sha.cc 11 ka.e);have z2:=oc _ _ (Xw (Sha.cc 6 ka.e) (Sha.cc 11 ka.e)) (Sha.cc 25 ka.e);have z3 : (Sha.lz u.e 6 ^^^ Sha.lz u.e 11) ^^^ Sha.lz u.e 25 = Sha.Kw u.e 6 11 25:=rfl;rw [z3] at z2;have z4:=oc _ _ (Sha.cc 2 ka.a) (Sha.cc 13 ka.a);have z5:=oc _ _ (Xw (Sha.cc 2 ka.a) (Sha.cc 13 ka.a)) (Sha.cc 22 ka.a);have z6 : (Sha.lz u.a 2 ^^^ Sha.lz u.a 13) ^^^ Sha.lz u.a 22 = Sha.Kw u.a 2 13 22:=rfl;rw [z6] at z5;refine dL T.mixed [(ow,WL)] [6,10,15] [43] [] (by kernel_rfl) (by simp only [aG,aJ,and_true]; simp [AS.set,aF,jw]) ?_;intro K hK;simp only [↓bp,↓a7,dh,dd,aO,aS,aG,aJ,List.any_cons,List.any_nil,List.contains_cons,List.contains_nil,Nat.reduceBEq,Bool.or_false,Bool.or_true,Bool.or_self,Bool.false_or,↓DN,Qa,Qb,Qc,Qd,Qe,Qf,Qg,Qh,reduceCtorEq,↓reduceIte,Na,Nb,Nc,Nk,Nf,Ng,Nh,Za,Zb,Zc,TT,g13,c8,hq.h7,g14,g4,jw];refine ad (dv u.e 6 ka.e (by omega) (by omega) _) ?_;rintro r sa ⟨rfl,rfl⟩;simp only [↓cj,↓bM,bY,↓bp,↓a7,dh,dd,aO,aS,aG,aJ,List.any_cons,List.any_nil,DX,Nat.reduceBEq,↓DN,Qa,Qb,Qc,Qd,Qe,Qf,Qg,Qh,reduceCtorEq,↓reduceIte,Na,Nb,Nc,Nk,Nf,Ng,Nh,Za,Zb,Zc,TT,g13,c8,hq.h7,g14,g4,jw];refine ad (dv u.e 11 ka.e (by omega) (by omega) _) ?_;rintro r sb ⟨rfl,rfl⟩;simp only [↓cj,↓bM,bY,↓bp,↓a7,dh,dd,aO,aS,aG,aJ,List.any_cons,List.any_nil,DX,Nat.reduceBEq,↓DN,Qa,Qb,Qc,Qd,Qe,Qf,Qg,Qh,reduceCtorEq,↓reduceIte,Na,Nb,Nc,Nk,Nf,Ng,Nh,Za,Zb,Zc,TT,g13,c8,hq.h7,g14,g4,jw,z1];refine ad (dv u.e 25 ka.e (by omega) (by omega) _) ?_;rintro r sc ⟨rfl,rfl⟩;simp only [↓cj,↓bM,bY,↓bp,↓a7,dh,dd,aO,aS,aG,aJ,List.any_cons,List.any_nil,DX,Nat.reduceBEq,↓DN,Qa,Qb,Qc,Qd,Qe,Qf,Qg,Qh,reduceCtorEq,↓reduceIte,Na,Nb,Nc,Nk,Nf,Ng,Nh,Za,Zb,Zc,TT,g13,c8,hq.h7,g14,g4,jw,z1,z2,xbe,hwd,lh,KP,sJ,zk u.e u.f ka.e ka.f,Xt u.e ka.e,zk (4294967295 - u.e) u.g hn ka.g,oc (u.e &&& u.f) ((4294967295 - u.e) &&& u.g) (FN ka.e ka.f) (FN hn ka.g)];refine hK _ _ ?_;clear hK K;refine bn T.mixed [3,7,12] (by kernel_rfl) ?_;intro K hK;refine jN (Ai @g13 @c8) ?_;refine ad (dv u.a 2 ka.a (by omega) (by omega) _) ?_;rintro r sa ⟨rfl,rfl⟩;refine jN (Ai @g13 @c8) ?_;refine ad (dv u.a 13 ka.a (by omega) (by omega) _) ?_;rintro r sb ⟨rfl,rfl⟩;refine jN (Ai @g13 (Ai @c8 @z4)) ?_;refine ad (dv u.a 22 ka.a (by omega) (by omega) _) ?_;rintro r sc ⟨rfl,rfl⟩;refine jV (Ai @g13 (Ai @c8 (Ai @z4 (Ai @z5 (Ai @sJ (Ai (zk u.a u.b ka.a ka.b) (Ai (zk u.a u.c ka.a ka.c) (Ai (zk u.b u.c ka.b ka.c) (Ai (oc (u.a &&& u.b) (u.a &&& u.c) (FN ka.a ka.b) (FN ka.a ka.c)) (oc ((u.a &&& u.b) ^^^ (u.a &&& u.c)) (u.b &&& u.c) (Xw (FN ka.a ka.b) (FN ka.a ka.c)) (FN ka.b ka.c))))))))))) hK ?_;clear hK K;refine fe T.mixed [] (by kernel_rfl) ?_;intro K hK;refine jV (Ai @g13 (Ai @c8 (Ai @sJ @xa9))) hK ?_;clear hK K;simp only [az,ar,if_true,if_false];refine kV _ _ ?_;clear kV K6;refine jD (Ai @g14 (cE t (by omega))) ?_;refine ⟨⟨t + 1,by omega,(by repeat (first | exact hk | exact hq | refine Kp.aF ?_ (by decide) | refine Kq.aF ?_ (by decide))),(by repeat (first | exact hk | exact hq | refine Kp.aF ?_ (by decide) | refine Kq.aF ?_ (by decide))),⟨.new,?_⟩,rfl,by rw [jw,hWL],jh,mD⟩,?_⟩
         ·repeat (first | refine Kr.aF ?_ (by decide))
          refine ⟨?_⟩;simp only [aF,↓reduceIte];rw [xbd];rfl
         ·simp only [g14,aF,↓reduceIte];omega
        ·have bI : ¬ (t : Int) < 64:=(by omega);obtain rfl : t = 64:=(by omega);refine jB (Ai @g14 (decide_eq_false bI)) ?_;refine jF ?_;refine aA ?_;simp only [az,ar,if_true];clear kt K5;refine ee _ _ ?_;clear ee K4;have hk : Kp oh m pl (.own tk e) i (aF (aF E7 120 (AV.v (.int .i64 ((64 : Nat) : Int)))) 121 (AV.v (.bool false))):=(by repeat (first | exact hk | exact hq | refine Kp.aF ?_ (by decide) | refine Kq.aF ?_ (by decide)));have hv : Kr (dV u) Zv (aF (aF E7 120 (AV.v (.int .i64 ((64 : Nat) : Int)))) 121 (AV.v (.bool false))):=(by repeat (first | exact hk | exact hq | exact hv | refine Kp.aF ?_ (by decide) | refine Kq.aF ?_ (by decide) | refine Kr.aF ?_ (by decide)));generalize (aF (aF E7 120 (AV.v (.int .i64 ((64 : Nat) : Int)))) 121 (AV.v (.bool false))) = E8 at *
         clear g14;rw [hu] at N0;rw [← AD st u] at jh;refine jA ?_;refine ag ?_;refine aC (fun E s3=>∃ t : Nat,t≤8∧Kp oh m pl (.own tk e) i E∧Kr (dV u) Zv E∧E 17 = .v (.int .i64 t)∧s3.av oh = some (xR st u t)∧s.le s3)
          (fun E _=>match E 17 with | .v (.int _ x)=>8 - x.toNat | _=>0) ?_ ?_
         ·exact ⟨0,by omega,(by repeat (first | exact hk | exact hq | refine Kp.aF ?_ (by decide) | refine Kq.aF ?_ (by decide))),(by repeat (first | exact hk | exact hq | exact hv | refine Kp.aF ?_ (by decide) | refine Kq.aF ?_ (by decide) | refine Kr.aF ?_ (by decide))),rfl,jh,mD⟩
         ·rintro E9 s7 ⟨t,ht,hk,hv,g17,jh,qY⟩ -
          refine wK fun K5 kt=>?_;by_cases wh : t < 8
          ·have bI : (t : Int) < 8:=(by omega);refine jB (Ai @g17 (decide_eq_true bI)) ?_;refine jE ?_;refine ab ?_;refine kt _ _ ?_;clear kt K5;refine wK fun K6 kV=>?_;refine ag ?_;have lh : (0 : Int)≤(t : Int):=(by omega);have d2:=AF st u t wh;have d5:=xU u t wh;have ck:=DU st u t wh;have hlen:=DS st u t ht;generalize st.list.getD t 0 = x at *
           generalize u.list.getD t 0 = y at *
           have g13:=hv.Kk;obtain ⟨X,hX⟩ : ∃ X,X = xR st u t:=⟨_,rfl⟩;rw [← hX] at d2 ck hlen jh;obtain ⟨Y,hY⟩ : ∃ Y,Y = dV u:=⟨_,rfl⟩;rw [← hY] at d5 g13;have d51 : List.take 1 (List.drop t Y) = [wV y]:=(by rw [d5]; rfl);refine cH T.mixed [(oh,X)] [] [5] [12] (by kernel_rfl) (by simp only [aG,aJ,and_true]; simp [AS.set,aF,jh]) ?_;intro K hK;simp only [↓bp,↓a7,dh,dd,aO,aS,aG,aJ,List.any_cons,List.any_nil,List.contains_cons,List.contains_nil,Nat.reduceBEq,Bool.or_false,Bool.or_true,Bool.or_self,Bool.false_or,↓DN,Qa,Qb,Qc,Qd,Qe,Qf,Qg,Qh,reduceCtorEq,↓reduceIte,Na,Nb,Nc,Nk,Nf,Ng,Nh,Za,Zb,Zc,TT,hk.h3,g17,g13,c8,lh,bI,d2,d51,jh,sJ,ck,hlen];refine ⟨by omega,hK _ _ ?_⟩;clear hK;simp only [az,ar,if_true,if_false];refine kV _ _ ?_;clear kV K6;refine jD (Ai @g17 (cE t (by omega))) ?_;refine ⟨⟨t + 1,by omega,(by repeat (first | exact hk | exact hq | refine Kp.aF ?_ (by decide) | refine Kq.aF ?_ (by decide))),(by repeat (first | exact hk | exact hq | exact hv | refine Kp.aF ?_ (by decide) | refine Kq.aF ?_ (by decide) | refine Kr.aF ?_ (by decide))),rfl,AS.ae _ _ _,AS.aE qY hoh _⟩,?_⟩;simp only [g17,aF,↓reduceIte];omega
          ·have bI : ¬ (t : Int) < 8:=(by omega);obtain rfl : t = 8:=(by omega);refine jB (Ai @g17 (decide_eq_false bI)) ?_;refine jF ?_;refine aA ?_;simp only [az,ar,if_true,if_false];refine br _ _ ?_;clear br kt K3 K5;have h6:=hk.h6;have N3 : dP .i64 ((64 * i : Nat) : Int) 64 = ((64 * (i + 1) : Nat) : Int):=fD (64 * i) 64 (by omega);refine jD (Ai @h6 @N3) ?_;rw [AE,← N0,← PG] at jh;refine ⟨⟨i + 1,aX,⟨by simp only [aF,hk.h3,Nc,↓reduceIte],by simp only [aF,hk.h4,Nc,↓reduceIte],by simp only [aF,hk.h5,Nc,↓reduceIte],rfl⟩,jh,qY⟩,?_⟩;simp only [aF,↓reduceIte,Int.toNat_natCast,Xy];omega
  ·have bI : ¬ ((64 * i : Nat) : Int) < ((64 * m : Nat) : Int):=(by omega);obtain rfl : i = m:=(by omega);refine jB (Ai @e6 (Ai @hk.h5 (decide_eq_false bI))) ?_;refine jF ?_;refine aA ?_;simp only [az,ar,if_true];clear aV K2;refine hK _ _ ?_;clear hK K;have h3:=hk.h3;generalize Sha.hash pl i = u at *
   refine jA ?_;refine wK fun K hK=>?_;refine jA ?_;refine ag ?_;refine aC (fun E s3=>∃ t : Nat,t≤8∧E 3 = .iv oh 0 1 8 8∧E 19 = .v (.int .i64 t)∧s3.av oh = some (dV u)∧dE s2 (Im u t) (E 18) s3)
    (fun E _=>match E 19 with | .v (.int _ x)=>8 - x.toNat | _=>0) ?_ ?_
   ·exact ⟨0,by omega,h3,rfl,ho,AS.le.refl s2,.inl ⟨rfl,rfl⟩⟩
   ·rintro E3 s3 ⟨t,ht,g3,g19,jh,xW⟩ -
    refine wK fun K5 kt=>?_;by_cases wh : t < 8
    ·have bI : (t : Int) < 8:=(by omega);have lh : (0 : Int)≤(t : Int):=(by omega);refine jB (Ai @g19 (decide_eq_true bI)) ?_;refine jE ?_;refine ab ?_;refine kt _ _ ?_;clear kt K5;refine wK fun K6 kV=>?_;refine ag ?_;have d5:=xU u t wh;have sL:=AJ u t wh;have N5:=D1 u t ht;generalize u.list.getD t 0 = x at *
     have JD : eC .u32 (x : Int) 24 = ((x / 2 ^ 24 : Nat) : Int):=tZ x 24 (by decide);have IM : eC .u32 (x : Int) 16 = ((x / 2 ^ 16 : Nat) : Int):=tZ x 16 (by decide);have s8 : eC .u32 (x : Int) 8 = ((x / 2 ^ 8 : Nat) : Int):=tZ x 8 (by decide);generalize sM : E3 18 = r6 at xW;obtain ⟨X,hX⟩ : ∃ X,X = dV u:=⟨_,rfl⟩;rw [← hX] at d5 jh;refine cH T.mixed [(oh,X)] [25] [4,10,16,22] [] (by kernel_rfl) (by simp only [aG,aJ,and_true]; simp [AS.set,aF,jh]) ?_;intro K hK;simp only [↓bp,↓a7,dh,dd,aO,aS,aG,aJ,List.any_cons,List.any_nil,List.contains_cons,List.contains_nil,Nat.reduceBEq,Bool.or_false,Bool.or_true,Bool.or_self,Bool.false_or,↓DN,Qa,Qb,Qc,Qd,Qe,Qf,Qg,Qh,reduceCtorEq,↓reduceIte,Na,Nb,Nc,Nk,Nf,Ng,Nh,Za,Zb,Zc,TT,g3,g19,c8,lh,bI,d5,jh,JD,IM,s8,Xz,sM];refine cV (ds:=Sha.be x) xW rfl (by simp only [Sha.be,List.map_cons,List.map_nil,vZ]) T.c5 T.b5 (by rw [N5]; simp only [Sha.be,List.length_cons,List.length_nil]; omega) ?_;intro r2 s6 h6;rw [sL] at h6;refine ⟨by rw [hX]; exact h6.1.av _ _ ho,hK _ _ ?_⟩;clear hK;simp only [az,ar,if_true,if_false];refine kV _ _ ?_;clear kV K6;refine jD (Ai @g19 (cE t (by omega))) ?_;refine ⟨⟨t + 1,by omega,g3,rfl,h6.1.av _ _ ho,by simpa only [aF,Nc,↓reduceIte] using h6⟩,?_⟩;simp only [g19,aF,↓reduceIte];omega
    ·have bI : ¬ (t : Int) < 8:=(by omega);obtain rfl : t = 8:=(by omega);refine jB (Ai @g19 (decide_eq_false bI)) ?_;refine jF ?_;refine aA ?_;simp only [az,ar,if_true];clear kt K5;refine hK _ _ ?_;clear hK K;rw [AK,MR] at xW;obtain ⟨tz,ez,Tq⟩:=cg xW (by rw [← List.length_pos_iff,Sha.dA]; decide);refine jB @Tq ?_;refine jI ?_;exact ⟨_,s,AV.aB.refl _,AS.le.trans hle xW.1,rfl,rfl⟩
theorem M0 : af prog 235 = true:=by kernel_rfl
theorem M3 : af prog 237 = true:=by kernel_rfl
theorem M4 : af prog 163 = true:=by kernel_rfl
theorem eu (k : Nat) (n : Int) (st : List UInt8 × Bool) : (bd k n st).1.length≤st.1.length + k:=by
 unfold bd dQ;split
 ·split
  ·omega
  ·simp
 ·simp only; omega
theorem zo (number : Int) (hn : -9223372036854775808≤number∧number≤9223372036854775807) (N : al) (hl : N.jk.length≤2 ^ 61) (s0 s : AS) (p : Nat) (st : List UInt8 × Bool) (iG : st.1.length≤100) (h : fI s0 s p st) :
  ai prog Γ 235 [.ptr p 0,.dc [.v (.int .i64 number)],.dc N.cells] s (fun r s'=>r = .dX []∧fI s0 s' p (dq N (bd 4 number st))):=by
 refine aa func235 rfl ntmps235 results235 (by simp) ?_;have hw:=nP (Γ:=Γ) N hl;unfold al.cells at *
 refine jQ fun K hK=>?_;refine ad (sB s0 s p st number hn (by omega) h) ?_;rintro r s1 ⟨rfl,h1⟩;refine jR hK ?_;clear hK K;have Zw:=eu 4 number st;refine jU @aH.eq_1 fun K hK=>?_;refine ad (hw s0 s1 p _ (by omega) h1) ?_;rintro r s2 ⟨rfl,h2⟩;refine jR hK ?_;clear hK K;simp only [b8,bt,bD,cU,List.toList_toArray,↓ba]; try simp only [UP,DF,Nc,↓reduceIte,DT]
 exact jW ⟨rfl,h2⟩
theorem vE (N : al) (hl : N.jk.length≤2 ^ 61) (s0 s : AS) (p : Nat) (st : List UInt8 × Bool) (iG : st.1.length≤100) (h : fI s0 s p st) :
  ai prog Γ 237 [.ptr p 0,.dc N.cells] s (fun r s'=>r = .dX []∧fI s0 s' p (dq N st)):=by
 refine aa func237 rfl ntmps237 results237 (by simp) ?_;have hw:=nP (Γ:=Γ) N hl;unfold al.cells at *
 refine jU @aH.eq_1 fun K hK=>?_;refine ad (hw s0 s p _ (by omega) h) ?_;rintro r s2 ⟨rfl,h2⟩;refine jR hK ?_;clear hK K;simp only [b8,bt,bD,cU,List.toList_toArray,↓ba]; try simp only [UP,DF,Nc,↓reduceIte,DT]
 exact jW ⟨rfl,h2⟩
theorem vF (N : al) (hk : N.key < 2 ^ 64) (hp : N.parent.length≤100) (s0 s : AS) (p : Nat) (st : List UInt8 × Bool) (iG : st.1.length≤100) (h : fI s0 s p st) :
  ai prog Γ 163 [.ptr p 0,.dc N.cells] s (fun r s'=>r = .dX []∧fI s0 s' p (dj 1 N.parent (dQ 8 N.key st))):=by
 refine aa func163 rfl ntmps163 results163 (by simp) ?_;have Au : (dQ 8 N.key st).1.length≤st.1.length + 8:=(by unfold dQ; split; omega; simp);obtain ⟨k,m,y,pa,u⟩:=N;simp only at hk hp Au;unfold al.cells at *
 refine jQ fun K hK=>?_;refine ad (kj s0 s p st y hk (by omega) h) ?_;rintro r s1 ⟨rfl,h1⟩;refine jR hK ?_;clear hK K;refine jU @aH.eq_1 fun K hK=>?_;refine ad (fm s0 s1 p _ (aj pa .any) pa (.inr ⟨_,rfl⟩) (by omega) h1) ?_;rintro r s2 ⟨rfl,h2⟩;refine jR hK ?_;clear hK K;simp only [b8,bt,bD,cU,List.toList_toArray,↓ba]; try simp only [UP,DF,Nc,↓reduceIte,DT]
 exact jW ⟨rfl,h2⟩
theorem la (mark : Nat) (hm : mark < 256) (k : FuncId) (b6 : List AV) (hk : af prog k = true) (F : List UInt8 × Bool)
  (hF : ∀ s0 s p,fI s0 s p ([UInt8.ofNat mark],false)→ai prog Γ k (.ptr p 0 :: b6) s (fun r s'=>r = .dX []∧fI s0 s' p F)) (hl : F.1.length≤2 ^ 45) (s : AS) :
  ai prog Γ 162 [.v (.int .i64 (mark : Int)),.pI k b6] s (fun r s'=>r = .dX [aj (if F.2 = true then [] else F.1) .any,.v (.bool !F.2)]∧s' = s):=by
 refine aa func162 rfl ntmps162 results162 (by simp) ?_;have h0 : bd 1 (mark : Int) ([],false) = ([UInt8.ofNat mark],false):=by
  unfold bd;rw [if_pos ⟨by omega,by omega⟩];simp [dQ,be]
 refine jA ?_;refine jQ fun K hK=>?_;refine ad (pH s) ?_;rintro r s1 ⟨p,rfl,q1⟩;refine jR hK ?_;clear hK K;refine jQ fun K hK=>?_;refine ad (fk s s1 p ([],false) (mark : Int) (by omega) (by simp) q1) ?_;rintro r s2 ⟨rfl,q2⟩;rw [h0] at q2;refine jR hK ?_;clear hK K;refine wS fun K hK=>?_;simp only [↓DN,Qa,Qb,Qc,Qd,Qe,Qf,Qg,Qh,reduceCtorEq,↓reduceIte,Na,Nb,Nc,Nk,Nf,Ng,Nh,Za,Zb,Zc,TT,hk];refine ad (hF s s2 p q2) ?_;rintro r s3 ⟨rfl,q3⟩;refine jR hK ?_;clear hK K;refine jK (hM s s3 p _ hl q3) ?_;rintro s4 rfl;refine jI ?_;exact ⟨_,s,AV.aB.refl _,q3.le,rfl,rfl⟩
def xX (number : Int) (N : al) : List UInt8:=1 :: (be 4 number.toNat ++ N.text)
def v7 (N : al) (l r : List UInt8) : List UInt8:=2 :: (N.text ++ (l ++ r))
def sN (N : al) (b : List UInt8) : List UInt8:=3 :: (be 8 N.key ++ ((be 1 N.parent.length ++ N.parent) ++ b))
def xY (number : Int) (N : al) : List UInt8:=if N.right∧0≤number∧number < 32 then Sha.sum (xX number N) else []
def nq (N : al) (l r : List UInt8) : List UInt8:=if N.right then Sha.sum (v7 N l r) else []
def pF (N : al) (b : List UInt8) : List UInt8:=if N.right∧N.kind = 2 then Sha.sum (sN N b) else []
theorem zp (number : Int) (N : al) (hr : N.right) (h0 : 0≤number) (h1 : number < 4294967296) : dq N (bd 4 number ([1],false)) = (xX number N,false):=by
 unfold dq bd;rw [if_pos hr,if_pos ⟨h0,by omega⟩];simp [dQ,dR,xX]
theorem B7 (number : Int) (N : al) (h : ¬ (N.right∧0≤number∧number < 4294967296)) : (dq N (bd 4 number ([1],false))).2 = true:=by
 unfold dq;by_cases hr : N.right
 ·rw [if_pos hr];have : ¬ (0≤number∧number < 2 ^ (8 * 4)):=fun e=>h ⟨hr,e.1,by have:=e.2; omega⟩;unfold bd;rw [if_neg this];rfl
 ·rw [if_neg hr]
theorem u6 (N : al) (st : List UInt8 × Bool) : (dq N st).1.length≤st.1.length + 100:=by
 unfold dq;split
 ·rename_i hr;have:=al.mq hr;have:=wY N.text st;omega
 ·simp only; omega
theorem xZ (dO : Γ 0 = dV Sha.H0) (hG : Γ 1 = Sha.K.map wV) (number : Int) (hn : -9223372036854775808≤number∧number≤9223372036854775807) (N : al) (hl : N.jk.length≤2 ^ 61) (s : AS) :
  ai prog Γ 201 [.v (.int .i64 number),.agg N.cells] s (fun r s'=>r = aj (xY number N) .any∧s' = s):=by
 refine aa func201 rfl ntmps201 results201 (by simp) ?_;have eV:=fun s0 s p hp=>zo (Γ:=Γ) number hn N hl s0 s p ([1],false) (by decide) hp;have hlen : (dq N (bd 4 number ([1],false))).1.length≤2 ^ 45:=by
  have h1:=u6 N (bd 4 number ([1],false));have h2:=eu 4 number ([1],false);simp only [List.length_cons,List.length_nil] at h2;omega
 have P0:=fun s=>la (Γ:=Γ) 1 (by decide) _ _ M0 _ eV hlen s;have eI:=zp number N;have ef:=B7 number N;have hD : xY number N = if N.right∧0≤number∧number < 32 then Sha.sum (xX number N) else []:=rfl
 have hBl : N.right→(xX number N).length≤105:=(fun hr=>by have:=al.mq hr; simp [xX]; omega);clear eV;generalize dq N (bd 4 number ([1],false)) = F at *
 generalize xY number N = D at *
 generalize xX number N = B at *
 unfold al.cells at *
 refine gP 2 3 (by decide) (by decide) (by decide) ?_;intro K hK;refine jN @aH.eq_1 ?_;intro o1 h1 o2 h2;refine hK _ _ o1 o2 _ _ rfl rfl h1 (by rw [AS.gw]; exact h2) ?_;clear hK K h1 h2;refine jS @aH.eq_1 fun K hK=>?_;refine ad (P0 _) ?_;rintro r s1 ⟨rfl,rfl⟩;by_cases hg : N.right∧0≤number∧number < 4294967296
 ·have hF:=eI hg.1 hg.2.1 hg.2.2;rw [hF];refine jR hK ?_;clear hK K;refine wK fun K hK=>?_;by_cases nZ : number < 32
  ·refine jB (decide_eq_false (show ¬ (32 : Int)≤number by omega)) ?_;refine jF ?_;refine ab ?_;refine hK _ _ ?_;clear hK K;have P2 : D = Sha.sum B:=(by rw [hD,if_pos ⟨hg.1,hg.2.1,nZ⟩]);have FP:=hBl hg.1;have J7:=kv (Γ:=Γ) dO hG [B] .new (by simp) (by simp; omega) s1;rw [show [B].flatten = B from by simp,← P2] at J7;refine wS fun K hK=>?_;simp only [↓DN,Qa,Qb,Qc,Qd,Qe,Qf,Qg,Qh,reduceCtorEq,↓reduceIte,Na,Nb,Nc,Nk,Nf,Ng,Nh,Za,Zb,Zc,TT,List.replicate_one];refine ad J7 ?_;intro r s2 bx;have tb : D.length = 32:=(by rw [P2]; exact Sha.dA B);have hw:=bx.aB;have hle:=bx.1;obtain ⟨t,e,rfl⟩:=cg bx (by rw [← List.length_pos_iff,tb]; decide);refine jR hK ?_;clear hK K;refine jI ?_;exact ⟨_,s1,hw,hle,rfl,rfl⟩
  ·refine jB (decide_eq_true (show (32 : Int)≤number by omega)) ?_;refine jE ?_;refine jA ?_;refine jI ?_;refine ⟨aj [] .any,_,AV.aI,AS.le.refl _,?_,rfl⟩;rw [hD,if_neg (fun h=>nZ h.2.2)];rfl
 ·have hF:=ef hg;rw [hF];refine jR hK ?_;clear hK K;refine wK fun K hK=>?_;refine jA ?_;refine jE ?_;refine jA ?_;refine jI ?_;refine ⟨aj [] .any,_,AV.aI,AS.le.refl _,?_,rfl⟩;rw [hD,if_neg (fun h=>hg ⟨h.1,h.2.1,by omega⟩)];rfl
theorem FQ (a b c : List UInt8) : fQ [a,b,c] = [aj a .any,aj b .any,aj c .any]:=rfl
theorem FR (a b : List UInt8) : fQ [a,b] = [aj a .any,aj b .any]:=rfl
theorem ud (dO : Γ 0 = dV Sha.H0) (hG : Γ 1 = Sha.K.map wV) (N : al) (hl : N.jk.length≤2 ^ 61) (x y : List UInt8) (TR : x.length + y.length≤2 ^ 30) (s : AS) :
  ai prog Γ 202 [.agg N.cells,aj x .any,aj y .any] s (fun r s'=>r = aj (nq N x y) .any∧s' = s):=by
 refine aa func202 rfl ntmps202 results202 (by simp) ?_;have eV:=fun s0 s p hp=>vE (Γ:=Γ) N hl s0 s p ([2],false) (by decide) hp;have hlen : (dq N ([2],false)).1.length≤2 ^ 45:=by
  have h1:=u6 N ([2],false);simp only [List.length_cons,List.length_nil] at h1;omega
 have P0:=fun s=>la (Γ:=Γ) 2 (by decide) _ _ M3 _ eV hlen s;have hD : nq N x y = if N.right then Sha.sum (v7 N x y) else []:=rfl
 have hB : v7 N x y = (2 :: N.text) ++ (x ++ y):=rfl;have hT:=fun hr=>al.mq (N:=N) hr;have eI : N.right→dq N ([2],false) = (2 :: N.text,false):=(fun hr=>by unfold dq; rw [if_pos hr]; rfl);have ef : ¬ N.right→(dq N ([2],false)).2 = true:=(fun hr=>by unfold dq; rw [if_neg hr]);clear eV;generalize dq N ([2],false) = F at *
 generalize nq N x y = D at *
 generalize v7 N x y = B at *
 have RW : N.right→(2 :: N.text).length≤101:=(fun hr=>by have:=hT hr; simp; omega);generalize (2 :: N.text) = pre at *
 unfold al.cells at *
 refine aY 3 (by simp [ct]) ?_;intro K hK;refine jN @aH.eq_1 ?_;intro o ho;refine hK _ _ o _ rfl ho ?_;clear hK K ho;refine jS @aH.eq_1 fun K hK=>?_;refine ad (P0 _) ?_;rintro r s1 ⟨rfl,rfl⟩;by_cases hg : N.right
 ·rw [eI hg];refine jR hK ?_;clear hK K;refine wK fun K hK=>?_;refine jA ?_;refine jF ?_;refine ab ?_;refine hK _ _ ?_;clear hK K;have P2 : D = Sha.sum B:=(by rw [hD,if_pos hg]);have vj:=RW hg;have J7:=kv (Γ:=Γ) dO hG [pre,x,y] .new (by simp) (by simp; omega) s1;rw [show [pre,x,y].flatten = B from by rw [hB]; simp,← P2,FQ] at J7;refine wS fun K hK=>?_;simp only [↓DN,Qa,Qb,Qc,Qd,Qe,Qf,Qg,Qh,reduceCtorEq,↓reduceIte,Na,Nb,Nc,Nk,Nf,Ng,Nh,Za,Zb,Zc,TT,List.replicate_succ,List.replicate_zero];refine ad J7 ?_;intro r s2 bx;have tb : D.length = 32:=(by rw [P2]; exact Sha.dA B);have hw:=bx.aB;have hle:=bx.1;obtain ⟨t,e,rfl⟩:=cg bx (by rw [← List.length_pos_iff,tb]; decide);refine jR hK ?_;clear hK K;refine jI ?_;exact ⟨_,s1,hw,hle,rfl,rfl⟩
 ·rw [ef hg];refine jR hK ?_;clear hK K;refine wK fun K hK=>?_;refine jA ?_;refine jE ?_;refine jA ?_;refine jI ?_;refine ⟨aj [] .any,_,AV.aI,AS.le.refl _,?_,rfl⟩;rw [hD,if_neg hg];rfl
theorem ue (dO : Γ 0 = dV Sha.H0) (hG : Γ 1 = Sha.K.map wV) (N : al) (hl : N.jk.length≤2 ^ 61) (x : List UInt8) (hx : x.length≤2 ^ 30) (s : AS) :
  ai prog Γ 113 [.agg N.cells,aj x .any] s (fun r s'=>r = aj (pF N x) .any∧s' = s):=by
 refine aa func113 rfl ntmps113 results113 (by simp) ?_;have hD : pF N x = if N.right∧N.kind = 2 then Sha.sum (sN N x) else []:=rfl
 have hB : sN N x = (3 :: (be 8 N.key ++ (be 1 N.parent.length ++ N.parent))) ++ x:=(by simp [sN]);have RX:=fun s=>jv (Γ:=Γ) N hl s;have KR : N.right→N.kind = 2→N.key < 2 ^ 64∧N.parent.length≤32:=by
  intro hr hk;have : N.held:=by
   unfold al.right at hr;rw [hk] at hr;simp at hr;exact hr.2.1
  obtain ⟨_,h2,h3⟩:=this;exact ⟨by omega,by omega⟩
 have eV:=fun hk hp s0 s p hq=>vF (Γ:=Γ) N hk hp s0 s p ([3],false) (by decide) hq;have hF : N.right→N.kind = 2→dj 1 N.parent (dQ 8 N.key ([3],false)) = (3 :: (be 8 N.key ++ (be 1 N.parent.length ++ N.parent)),false):=by
  intro hr hk;have:=(KR hr hk).2;unfold dj bd;rw [if_pos ⟨by omega,by omega⟩];simp [dQ,dR]
 generalize dj 1 N.parent (dQ 8 N.key ([3],false)) = F at *
 have RW : N.right→N.kind = 2→(3 :: (be 8 N.key ++ (be 1 N.parent.length ++ N.parent))).length≤100:=(fun hr hk=>by have:=(KR hr hk).2; simp; omega);generalize (3 :: (be 8 N.key ++ (be 1 N.parent.length ++ N.parent))) = pre at *
 generalize pF N x = D at *
 generalize sN N x = B at *
 unfold al.cells at *
 obtain ⟨k,m,y,pa,u⟩:=N;simp only at *
 refine aY 2 (by simp [ct]) ?_;intro K hK;refine jN @aH.eq_1 ?_;intro o ho;refine hK _ _ o _ rfl ho ?_;clear hK K ho;refine wK fun K hK=>?_;by_cases hk : k = 2
 ·refine jS (Ai @aH.eq_1 (fZ hk)) fun K hK=>?_;refine ad (RX _) ?_;rintro r s1 ⟨rfl,rfl⟩;by_cases hg : al.right ⟨k,m,y,pa,u⟩
  ·rw [decide_eq_true hg];refine jR hK ?_;clear hK K;refine jF ?_;refine ab ?_;refine hK _ _ ?_;clear hK K;obtain ⟨q1,q2⟩:=KR hg hk;have hFF:=hF hg hk;have vj:=RW hg hk;have P0:=fun s=>la (Γ:=Γ) 3 (by decide) _ _ M4 _ (eV q1 (by omega)) (by rw [hFF]; simp only; omega) s;rw [hFF] at P0;refine jS @aH.eq_1 fun K hK=>?_;refine ad (P0 _) ?_;rintro r s2 ⟨rfl,rfl⟩;refine jR hK ?_;clear hK K;have P2 : D = Sha.sum B:=(by rw [hD,if_pos ⟨hg,hk⟩]);have J7:=kv (Γ:=Γ) dO hG [pre,x] .new (by simp) (by simp; omega) s2;rw [show [pre,x].flatten = B from by rw [hB]; simp,← P2,FR] at J7;refine wS fun K hK=>?_;simp only [↓DN,Qa,Qb,Qc,Qd,Qe,Qf,Qg,Qh,reduceCtorEq,↓reduceIte,Na,Nb,Nc,Nk,Nf,Ng,Nh,Za,Zb,Zc,TT,List.replicate_succ,List.replicate_zero];refine ad J7 ?_;intro r s3 bx;have tb : D.length = 32:=(by rw [P2]; exact Sha.dA B);have hw:=bx.aB;have hle:=bx.1;obtain ⟨t,e,rfl⟩:=cg bx (by rw [← List.length_pos_iff,tb]; decide);refine jR hK ?_;clear hK K;refine jI ?_;exact ⟨_,s2,hw,hle,rfl,rfl⟩
  ·rw [decide_eq_false hg];refine jR hK ?_;clear hK K;refine jE ?_;refine jA ?_;refine jI ?_;refine ⟨aj [] .any,_,AV.aI,AS.le.refl _,?_,rfl⟩;rw [hD,if_neg (fun h=>hg h.1)];rfl
 ·refine jB (Ai @aH.eq_1 (fC hk)) ?_;refine jE ?_;refine jA ?_;refine jI ?_;refine ⟨aj [] .any,_,AV.aI,AS.le.refl _,?_,rfl⟩;rw [hD,if_neg (fun h=>hk h.2)];rfl
def iD (t : List al) : Nat→Nat→List UInt8
 | 0,n=>xY ((n / 2 : Nat) : Int) (nd t n)
 | l + 1,n=>nq (nd t n) (iD t l (n - 2 ^ l)) (iD t l (n + 2 ^ l))
theorem uf (t : List al) : ∀ l n,(iD t l n).length≤32
 | 0,n=>by
  unfold iD xY;split
  ·rw [Sha.dA]; exact Nat.le_refl _
  ·simp
 | l + 1,n=>by
  unfold iD nq;split
  ·rw [Sha.dA]; exact Nat.le_refl _
  ·simp
theorem B8 (dO : Γ 0 = dV Sha.H0) (gl : Γ 1 = Sha.K.map wV) (hG : Γ 3 = eS.map nH) (t : List al) (ht : dS t) : ∀ (l n : Nat),lv n = l→n < 63→n + 2 ^ l≤t.length→∀ s,
  ai prog Γ 165 [aZ t,.v (.int .i64 n)] s (fun r s'=>r = aj (iD t l n) .any∧s' = s):=by
 intro l;induction l with
 | zero =>
  intro n hl hn hs s;refine aa func165 rfl ntmps165 results165 (by simp) ?_;have yD:=fun s=>gS (Γ:=Γ) hG (n : Int) (by omega) s;rw [Az hn hl] at yD;have hi : n < t.length:=(by have : (2 : Nat) ^ 0 = 1:=rfl; omega);have dw:=dm hi;have hH:=fun s=>xZ (Γ:=Γ) dO gl ((n / 2 : Nat) : Int) (by omega) (nd t n) (ht.nd n).1 s;have fL : iD t 0 n = xY ((n / 2 : Nat) : Int) (nd t n):=rfl;rw [fL];generalize xY ((n / 2 : Nat) : Int) (nd t n) = D at *
  generalize nd t n = N at *
  unfold aZ;generalize aQ al.cells t = X at *
  obtain ⟨nk,nm,ny,n8,nu⟩:=N;unfold al.cells at dw hH;unfold aH at dw hH;have cz : (0 : Int)≤(n : Int):=(by omega);refine jA ?_;refine jK (yD _) ?_;rintro s1 rfl;refine wK fun K hK=>?_;refine jA ?_;refine jE ?_;refine wS fun K hK=>?_;simp only [↓DN,Qa,Qb,Qc,Qd,Qe,Qf,Qg,Qh,reduceCtorEq,↓reduceIte,Na,Nb,Nc,Nk,Nf,Ng,Nh,Za,Zb,Zc,TT,lV,eG n (by omega),ax,hi,cz,dw];refine ad (hH _) ?_;rintro r s2 ⟨rfl,rfl⟩;refine jR hK ?_;clear hK K;exact jJ
 | succ l ih =>
  intro n hl hn hs s;refine aa func165 rfl ntmps165 results165 (by simp) ?_;obtain ⟨hk,YL,EC,Dj,I0,TE⟩:=uX hn hl;have yD:=fun s=>gS (Γ:=Γ) hG (n : Int) (by omega) s;have XK:=fun s=>lT (Γ:=Γ) hG (n : Int) (by omega) s;rw [hk] at yD XK;have wZ : 0 < 2 ^ l:=Nat.two_pow_pos l;have RD : 2 ^ (l + 1) = 2 ^ l + 2 ^ l:=(by rw [Nat.pow_succ]; omega);have hi : n < t.length:=(by omega);have dw:=dm hi;have h1:=fun s=>ih (n - 2 ^ l) YL (by omega) (by omega) s;have h2:=fun s=>ih (n + 2 ^ l) EC Dj (by omega) s;have hB:=fun s=>ud (Γ:=Γ) dO gl (nd t n) (ht.nd n).1 (iD t l (n - 2 ^ l)) (iD t l (n + 2 ^ l)) (by have:=uf t l (n - 2 ^ l); have:=uf t l (n + 2 ^ l); omega) s;have fL : iD t (l + 1) n = nq (nd t n) (iD t l (n - 2 ^ l)) (iD t l (n + 2 ^ l)):=rfl;rw [fL];clear ih fL;generalize nq (nd t n) (iD t l (n - 2 ^ l)) (iD t l (n + 2 ^ l)) = D at *
  generalize iD t l (n - 2 ^ l) = H1 at *
  generalize iD t l (n + 2 ^ l) = H2 at *
  generalize nd t n = N at *
  unfold aZ at *
  generalize aQ al.cells t = X at *
  obtain ⟨nk,nm,ny,n8,nu⟩:=N;unfold al.cells at dw hB;unfold aH at dw hB;have cz : (0 : Int)≤(n : Int):=(by omega);refine jA ?_;refine jK (yD _) ?_;rintro s1 rfl;refine wK fun K hK=>?_;refine jA ?_;refine jF ?_;refine ab ?_;refine hK _ _ ?_;clear hK K;refine jK (XK _) ?_;rintro s2 rfl;refine bn T.mixed [6,9,10] (by kernel_rfl) ?_;intro K hK;simp only [↓DM,bY,DX,Nz,↓DN,Qa,Qb,Qc,Qd,Qe,Qf,Qg,Qh,reduceCtorEq,↓reduceIte,Na,Nb,Nc,Nk,Nf,Ng,Nh,Za,Zb,Zc,TT,ax,hi,cz,dw];refine ad (h1 _) ?_;rintro r s3 ⟨rfl,rfl⟩;refine jM ?_;refine ad (h2 _) ?_;rintro r s4 ⟨rfl,rfl⟩;refine jM ?_;refine ad (hB _) ?_;rintro r s5 ⟨rfl,rfl⟩;refine jR hK ?_;clear hK K;exact jJ
def x8 (t : List al) (x : Int) : List UInt8:=if 0≤x∧x < (t.length : Int)∧bw t then iD t (lv x.toNat) x.toNat else []
theorem zq (dO : Γ 0 = dV Sha.H0) (gl : Γ 1 = Sha.K.map wV) (hG : Γ 3 = eS.map nH) (t : List al) (ht : dS t) (x : Int) (s : AS) :
  ai prog Γ 114 [aZ t,.v (.int .i64 x)] s (fun r s'=>r = aj (x8 t x) .any∧s' = s):=by
 refine aa func114 rfl ntmps114 results114 (by simp) ?_;have hr:=fun s=>iX (Γ:=Γ) hG t ht s;have hh:=fun n hn hs s=>B8 (Γ:=Γ) dO gl hG t ht (lv n) n rfl hn hs s;have lj:=ht.1;have uu : ¬ (0≤x∧x < (t.length : Int)∧bw t)→x8 t x = []:=fun h=>if_neg h;have KT : 0≤x∧x < (t.length : Int)∧bw t→x8 t x = iD t (lv x.toNat) x.toNat:=fun h=>if_pos h;unfold aZ at *
 generalize aQ al.cells t = X at *
 refine jA ?_;refine wK fun K hK=>?_;by_cases h0 : x < 0
 ·refine jB (decide_eq_true h0) ?_;refine jE ?_;refine jA ?_;refine jI ?_;refine ⟨_,_,AV.aI (sz:=1),AS.le.refl _,?_,rfl⟩;rw [uu (fun k=>by omega)];rfl
 ·by_cases h1 : (t.length : Int)≤x
  ·refine jB (Ai (decide_eq_false h0) (decide_eq_true h1)) ?_;refine jE ?_;refine jA ?_;refine jI ?_;refine ⟨_,_,AV.aI (sz:=1),AS.le.refl _,?_,rfl⟩;rw [uu (fun k=>by omega)];rfl
  ·refine jS (Ai (decide_eq_false h0) (decide_eq_false h1)) fun K hK=>?_;refine ad (hr _) ?_;rintro r s1 ⟨rfl,rfl⟩;by_cases mf : bw t
   ·rw [decide_eq_true mf];refine jR hK ?_;clear hK K;refine jF ?_;refine ab ?_;refine hK _ _ ?_;clear hK K;obtain ⟨n,rfl⟩:=Int.eq_ofNat_of_zero_le (show 0≤x by omega);have hn : n < t.length:=(by omega);obtain ⟨ik,nY⟩:=mf.span hn;refine jK (hh n nY ik _) ?_;rintro s2 rfl;refine jI ?_;refine jW ⟨?_,rfl⟩;rw [KT ⟨by omega,by omega,mf⟩,Int.toNat_natCast]
   ·rw [decide_eq_false mf];refine jR hK ?_;clear hK K;refine jE ?_;refine jA ?_;refine jI ?_;refine ⟨_,_,AV.aI (sz:=1),AS.le.refl _,?_,rfl⟩;rw [uu (fun k=>mf k.2.2)];rfl
theorem D2 (l : List Int) (v : Int) (hl : l.length≤2 ^ 61) (s : AS) : ai prog Γ 129 [aH l .any,.v (.int .i64 v)] s (fun r s'=>r = .v (.int .i64 (bZ (fun i=>v == l.getD i 0) l.length 0))∧s' = s):=by
 refine aa func129 rfl ntmps129 results129 (by simp) ?_;obtain ⟨Q,hQ⟩ : ∃ Q : Nat→Bool,Q = fun i=>v == l.getD i 0:=⟨_,rfl⟩;rw [← hQ];unfold aH;refine jA ?_;refine wK fun K hK=>?_;refine jA ?_;refine ag ?_;refine aC (fun E s2=>∃ i : Nat,i≤l.length∧bZ Q (l.length - i) i = bZ Q l.length 0∧E 8 = .v (.int .i64 i)∧E 7 = .v (.int .i64 l.length)∧E 0 = .sl 1 l.length (l.map aM) .any∧E 1 = .v (.int .i64 v)∧s2 = s)
  (fun E _=>match E 8 with | .v (.int _ i)=>l.length - i.toNat | _=>0) ?_ ?_
 ·exact ⟨0,Nat.zero_le _,rfl,rfl,rfl,rfl,rfl,rfl⟩
 ·rintro E1 s2 ⟨i,hi,hf,g8,g7,g0,g1,rfl⟩ -
  by_cases aX : i < l.length
  ·refine jB (Ai @g8 (Ai @g7 (Ai @ax (decide_eq_true aX)))) ?_;refine wK fun K2 aV=>?_;refine jE ?_;refine ab ?_;refine aV _ _ ?_;clear aV K2;refine wK fun K3 br=>?_;refine ag ?_;have tV : Q i = (v == l[i]):=(by rw [hQ]; simp [List.getD,aX]);obtain ⟨k',IJ⟩ : ∃ k',l.length - i = k' + 1:=⟨l.length - i - 1,by omega⟩;have Cq : l.length - (i + 1) = k':=(by omega);rw [IJ] at hf;have dw:=eU aX;have cz : (0 : Int)≤(i : Int):=(by omega);generalize l[i] = u at *
   refine jB @g8 ?_;by_cases hq : v = u
   ·have Tb : Q i = true:=(by rw [tV]; exact mr hq);refine jB (Ai @g1 (Ai @g0 (Ai @ax (Ai @aX (Ai @cz (Ai @dw (mr hq))))))) ?_;refine jE ?_;refine jA ?_;refine jI ?_;rw [← hf,jf Tb];exact jW ⟨rfl,rfl⟩
   ·have Tb : Q i = false:=(by rw [tV]; exact lU hq);refine jB (Ai @g1 (Ai @g0 (Ai @ax (Ai @aX (Ai @cz (Ai @dw (lU hq))))))) ?_;refine jF ?_;refine ab ?_;simp only [ar,az,if_true,if_false];refine br _ _ ?_;clear br K3;refine jD (Ai @g8 (bj i (by omega))) ?_;refine ⟨⟨i + 1,by omega,by rw [Cq,← hf,je Tb],rfl,g7,g0,g1,rfl⟩,?_⟩;simp only [g8,aF,↓reduceIte];omega
  ·refine jB (Ai @g8 (Ai @g7 (Ai @ax (decide_eq_false aX)))) ?_;refine wK fun K2 aV=>?_;refine jF ?_;refine aA ?_;simp only [az,ar,if_true];refine hK _ _ ?_;clear hK aV K2 K;rw [show l.length - i = 0 by omega] at hf;refine jA ?_;refine jI ?_;rw [← hf];exact jW ⟨rfl,rfl⟩
theorem ic (l : List Int) (v : Int) (hl : l.length≤2 ^ 61) (s : AS) : ai prog Γ 77 [aH l .any,.v (.int .i64 v)] s (fun r s'=>r = .v (.bool (decide (v ∈ l)))∧s' = s):=by
 refine aa func77 rfl ntmps77 results77 (by simp) ?_;have hc:=fun s=>D2 (Γ:=Γ) l v hl s;have ha:=xB (fun x=>v == x) l;have hm : l.any (fun x=>v == x) = decide (v ∈ l):=by
  rw [Bool.eq_iff_iff,List.any_eq_true,decide_eq_true_iff];constructor
  ·rintro ⟨x,hx,he⟩;rw [beq_iff_eq.1 he]; exact hx
  ·intro h;exact ⟨v,h,by simp⟩
 rw [hm] at ha;generalize bZ (fun i=>v == l.getD i 0) l.length 0 = n at *
 refine jA ?_;refine jK (hc _) ?_;rintro s1 rfl;refine jI ?_;rw [← ha];exact jW ⟨rfl,rfl⟩
def Xm (s0 : AS) (k : Nat) (cs : List AV) (L : List Int) (r : AV) (s' : AS) : Prop:=dz 1 s0 s' r (k + L.length) (cs ++ L.map aM)∧s0.le s'
theorem lN (hG : Γ 3 = eS.map nH) (t : List al) (mf : bw t) (skip : List Int) (Tc : skip.length≤2 ^ 61) (n : Nat) (I4 : n < 63) (hi : n < t.length) (AL : fV (n : Int) = none∨(nd t n).kind≠0)
  (s0 s : AS) (x : AV) (k : Nat) (cs : List AV) (hx : dz 1 s0 s x k cs) (hle : s0.le s) (hk : k + 33≤100000) :
  ai prog Γ 124 [aZ t,.v (.int .i64 n),aH skip .any,x] s (Xm s0 k cs (qe skip (nd t n) n ++ n9 skip (nd t n).jk)):=by
 refine aa func124 rfl ntmps124 results124 (by simp) ?_;have yD:=fun s=>gS (Γ:=Γ) hG (n : Int) (by omega) s;have H6:=fun v s=>ic (Γ:=Γ) skip v Tc s;have dw:=dm hi;have hur:=tR (mf.nd n);have tb:=tS skip (nd t n) n;have x9 : qe skip (nd t n) n = if ((nd t n).kind = 1∧((n / 2 : Nat) : Int) ∉ skip)∨(nd t n).kind = 2 then [(n : Int)] else []:=rfl
 generalize qe skip (nd t n) n = SL at *
 generalize nd t n = N at *
 unfold aZ;generalize aQ al.cells t = X at *
 obtain ⟨nk,nm,ny,n8,nu⟩:=N;unfold al.cells at dw;unfold aH at dw H6 ⊢;simp only at hur x9 AL;have cz : (0 : Int)≤(n : Int):=(by omega);refine jA ?_;refine aY 9 (by decide) ?_;intro K hK;simp only [↓DM,bY,DX,Nz,↓DN,Qa,Qb,Qc,Qd,Qe,Qf,Qg,Qh,reduceCtorEq,↓reduceIte,Na,Nb,Nc,Nk,Nf,Ng,Nh,Za,Zb,Zc,TT,ax,hi,cz,dw];intro o1 h1;refine hK _ _ o1 _ rfl h1 ?_;clear hK K h1;refine wK fun K0 RK=>?_;have h0 : ∀ (E : Env) (lf : Int) (ok : Bool),(ok = true→nk≠0)→E 0 = .sl 5 t.length X .any→E 1 = .v (.int .i64 n)→E 2 = .sl 1 skip.length (skip.map aM) .any→E 3 = x→E 9 = .dc [.v (.int .i64 nk),.sl 1 nm.length (nm.map ah) .any,.v (.int .u64 ny),.sl 1 n8.length (n8.map ah) .any,.sl 1 nu.length (nu.map aM) .any]→E 10 = .v (.int .i64 lf)→E 11 = .v (.bool ok)→K0 E s:=by
  intro E lf ok iz g0 g1 g2 g3 g9 g10 g11;refine RK _ _ ?_;clear RK K0;refine wK fun K1 kf=>?_;have h1 : ∀ (E : Env) (s1 : AS) (x1 : AV),E 1 = .v (.int .i64 n)→E 2 = .sl 1 skip.length (skip.map aM) .any→E 9 = .dc [.v (.int .i64 nk),.sl 1 nm.length (nm.map ah) .any,.v (.int .u64 ny),.sl 1 n8.length (n8.map ah) .any,.sl 1 nu.length (nu.map aM) .any]→E 3 = x1→dz 1 s0 s1 x1 (k + SL.length) (cs ++ SL.map aM)→s0.le s1→K1 E s1:=by
   clear g0 g1 g2 g3 g9 g10 g11 hx hle;intro E s1 x1 g1 g2 g9 g3 hx hle;refine kf _ _ ?_;clear kf K1;refine wK fun K2 aV=>?_;refine jB @g9 ?_;refine ag ?_;refine aC (fun E s2=>∃ (i : Nat) (x2 : AV),i≤nu.length∧E 67 = .v (.int .i64 i)∧E 66 = .v (.int .i64 nu.length)∧E 65 = .sl 1 nu.length (nu.map aM) .any∧E 2 = .sl 1 skip.length (skip.map aM) .any∧E 3 = x2∧dz 1 s0 s2 x2 (k + SL.length + (n9 skip (nu.take i)).length) (cs ++ SL.map aM ++ (n9 skip (nu.take i)).map aM)∧s0.le s2)
    (fun E _=>match E 67 with | .v (.int _ i)=>nu.length - i.toNat | _=>0) ?_ ?_
   ·refine ⟨0,x1,Nat.zero_le _,rfl,rfl,rfl,g2,g3,?_,hle⟩;have : n9 skip (nu.take 0) = []:=(by simp [n9]);rw [this];simpa using hx
   ·clear g1 g2 g9 g3 hx hle;rintro E2 s2 ⟨i,x2,aX,Mb,XL,Zx,g2,g3,hx,hle⟩ -
    by_cases zr : i < nu.length
    ·refine jB (Ai @Mb (Ai @XL (Ai @ax (decide_eq_true zr)))) ?_;refine wK fun K3 br=>?_;refine jE ?_;refine ab ?_;refine br _ _ ?_;clear br K3;refine wK fun K4 ee=>?_;refine ag ?_;have xbf : (0 : Int)≤(i : Int):=(by omega);have RM:=eU zr;have hub:=hur.2 nu[i] (List.getElem_mem zr);have QA:=H8 (skip:=skip) zr;have hlen:=xC skip (nu.take i);have bI : (nu.take i).length = i:=(by rw [List.length_take]; omega);generalize nu[i] = u at *
     have bX : ∀ (E : Env) (s3 : AS) (x3 : AV),E 67 = .v (.int .i64 i)→E 66 = .v (.int .i64 nu.length)→E 65 = .sl 1 nu.length (nu.map aM) .any→E 2 = .sl 1 skip.length (skip.map aM) .any→E 3 = x3→dz 1 s0 s3 x3 (k + SL.length + (n9 skip (nu.take (i + 1))).length) (cs ++ SL.map aM ++ (n9 skip (nu.take (i + 1))).map aM)→s0.le s3→K4 E s3:=by
      intro E s3 x3 f67 f66 f65 f2 f3 fx BA;refine ee _ _ ?_;clear ee K4;refine jD (Ai @f67 (bj i (by omega))) ?_;refine ⟨⟨i + 1,x3,by omega,rfl,f66,f65,f2,f3,fx,BA⟩,?_⟩;simp only [Mb,aF,↓reduceIte];omega
     clear ee;rw [QA] at bX;generalize n9 skip (nu.take i) = F at *
     generalize hCS : cs ++ SL.map aM = CS at *
     refine jB (Ai @Zx (Ai @Mb (Ai @ax (Ai @zr (Ai @xbf (Ai @RM @aM.eq_1)))))) ?_;refine jS @g2 fun K hK=>?_;refine ad (H6 _ _) ?_;rintro r s3 ⟨rfl,rfl⟩;by_cases hs : u ∈ skip
     ·rw [decide_eq_true hs];rw [if_neg (fun q=>q hs),List.append_nil] at bX;refine jR hK ?_;clear hK K;refine jF ?_;refine ab ?_;simp only [ar,az,if_true,if_false];exact bX _ _ _ Mb XL Zx g2 g3 hx hle
     ·rw [decide_eq_false hs];rw [if_pos hs] at bX;have e2 : iF .i64 2 u = 2 * u:=dJ (by omega);rw [List.length_append,List.length_singleton,List.map_append,List.map_cons,List.map_nil,← Nat.add_assoc,← List.append_assoc] at bX;refine jR hK ?_;clear hK K;refine jE ?_;rcases hx with ⟨rfl,fX,vW⟩ | ⟨t',e,rfl,wh,lh⟩
      ·refine wE fun K hK=>?_;simp only [↓DN,Qa,Qb,Qc,Qd,Qe,Qf,Qg,Qh,reduceCtorEq,↓reduceIte,Na,Nb,Nc,Nk,Nf,Ng,Nh,Za,Zb,Zc,TT,g3,e2,bO,List.replicate_succ];intro t' wh;refine hK _ _ ?_;simp only [ar,az,if_true,if_false];rw [fX,vW] at bX;exact bX _ _ (.sl 1 1 [.v (.int .i64 (2 * u))] (.own t' 0)) Mb XL Zx g2 rfl (.inr ⟨t',0,rfl,by simp [AS.bC],bf hle wh⟩) (AS.bq hle (bf hle wh) 0)
      ·refine wE fun K hK=>?_;simp only [↓DN,Qa,Qb,Qc,Qd,Qe,Qf,Qg,Qh,reduceCtorEq,↓reduceIte,Na,Nb,Nc,Nk,Nf,Ng,Nh,Za,Zb,Zc,TT,g3,e2,wh,List.replicate_succ];refine ⟨by omega,by omega,hK _ _ ?_⟩;simp only [ar,az,if_true,if_false];exact bX _ _ (.sl 1 (k + SL.length + F.length + 1) (CS ++ (F.map aM ++ [.v (.int .i64 (2 * u))])) (.own t' (e + 1))) Mb XL Zx g2 rfl (.inr ⟨t',e + 1,by rw [List.append_assoc]; rfl,by simp [AS.bC],lh⟩) (AS.bq hle lh (e + 1))
    ·refine jB (Ai @Mb (Ai @XL (Ai @ax (decide_eq_false zr)))) ?_;refine wK fun K3 br=>?_;refine jF ?_;refine aA ?_;simp only [az,ar,if_true];refine aV _ _ ?_;clear aV K2 br K3;rw [List.take_of_length_le (by omega)] at hx;refine jB @g3 ?_;refine jI ?_;refine ⟨_,_,AV.aB.refl _,AS.le.refl _,?_,hle⟩;rw [List.length_append,List.map_append,← Nat.add_assoc,← List.append_assoc];exact hx
  clear kf;refine ag ?_;refine wK fun K3 br=>?_;have h3 : ∀ (E : Env),E 1 = .v (.int .i64 n)→E 2 = .sl 1 skip.length (skip.map aM) .any→E 9 = .dc [.v (.int .i64 nk),.sl 1 nm.length (nm.map ah) .any,.v (.int .u64 ny),.sl 1 n8.length (n8.map ah) .any,.sl 1 nu.length (nu.map aM) .any]→E 3 = x→E 25 = .v (.bool false)→K3 E s:=by
   clear g0 g1 g2 g3 g9 g10 g11;intro E g1 g2 g9 g3 Ta;refine br _ _ ?_;clear br K3;refine wC fun X Y hX hY=>?_;refine jP (Ai @DB @Ta) ?_;refine hY ?_;clear hX hY X Y;refine wK fun K2 aV=>?_;have h2 : ∀ (E : Env) (b : Bool),(b = true↔(nk = 1∧((n / 2 : Nat) : Int) ∉ skip)∨nk = 2)→E 1 = .v (.int .i64 n)→E 2 = .sl 1 skip.length (skip.map aM) .any→E 9 = .dc [.v (.int .i64 nk),.sl 1 nm.length (nm.map ah) .any,.v (.int .u64 ny),.sl 1 n8.length (n8.map ah) .any,.sl 1 nu.length (nu.map aM) .any]→E 3 = x→E 46 = .v (.bool b)→K2 E s:=by
    clear g1 g2 g3 g9 Ta;intro E b hb g1 g2 g9 g3 Td;refine aV _ _ ?_;clear aV K2;cases b with
    | false =>
     rw [if_neg (fun q=>by have:=hb.2 q; cases this)] at x9;subst x9;refine wC fun X Y hX hY=>?_;refine jP (Ai @DB @Td) ?_;refine hY ?_;clear hX hY X Y;refine ab ?_;simp only [ar,az,if_true,if_false];refine h1 _ _ x g1 g2 g9 g3 ?_ hle;simpa using hx
    | true =>
     rw [if_pos (hb.1 rfl)] at x9;subst x9;refine wC fun X Y hX hY=>?_;refine jP (Ai @DB @Td) ?_;refine hX ?_;clear hX hY X Y;rcases hx with ⟨rfl,fX,vW⟩ | ⟨t',e,rfl,wh,lh⟩
     ·refine wE fun K hK=>?_;simp only [↓DN,Qa,Qb,Qc,Qd,Qe,Qf,Qg,Qh,reduceCtorEq,↓reduceIte,Na,Nb,Nc,Nk,Nf,Ng,Nh,Za,Zb,Zc,TT,g3,g1,bO,List.replicate_succ];intro t' wh;refine hK _ _ ?_;simp only [ar,az,if_true,if_false];rw [fX,vW] at h1;exact h1 _ _ (.sl 1 1 [.v (.int .i64 (n : Int))] (.own t' 0)) g1 g2 g9 rfl (.inr ⟨t',0,rfl,by simp [AS.bC],bf hle wh⟩) (AS.bq hle (bf hle wh) 0)
     ·refine wE fun K hK=>?_;simp only [↓DN,Qa,Qb,Qc,Qd,Qe,Qf,Qg,Qh,reduceCtorEq,↓reduceIte,Na,Nb,Nc,Nk,Nf,Ng,Nh,Za,Zb,Zc,TT,g3,g1,wh,List.replicate_succ];refine ⟨by omega,by omega,hK _ _ ?_⟩;simp only [ar,az,if_true,if_false];exact h1 _ _ (.sl 1 (k + 1) (cs ++ [.v (.int .i64 (n : Int))]) (.own t' (e + 1))) g1 g2 g9 rfl (.inr ⟨t',e + 1,rfl,by simp [AS.bC],lh⟩) (AS.bq hle lh (e + 1))
   clear aV;refine wK fun K4 ee=>?_;have h4 : ∀ (E : Env) (b : Bool),(b = true↔nk = 1∧((n / 2 : Nat) : Int) ∉ skip)→E 1 = .v (.int .i64 n)→E 2 = .sl 1 skip.length (skip.map aM) .any→E 9 = .dc [.v (.int .i64 nk),.sl 1 nm.length (nm.map ah) .any,.v (.int .u64 ny),.sl 1 n8.length (n8.map ah) .any,.sl 1 nu.length (nu.map aM) .any]→E 3 = x→E 46 = .v (.bool b)→K4 E s:=by
    clear g1 g2 g9 g3 Ta;intro E b hb g1 g2 g9 g3 Td;refine ee _ _ ?_;clear ee K4;cases b with
    | true =>
     refine wC fun X Y hX hY=>?_;refine jP (Ai @DB @Td) ?_;refine hX ?_;clear hX hY X Y;refine ab ?_;exact h2 _ true ⟨fun _=>.inl (hb.1 rfl),fun _=>rfl⟩ g1 g2 g9 g3 Td
    | false =>
     refine wC fun X Y hX hY=>?_;refine jP (Ai @DB @Td) ?_;refine hY ?_;clear hX hY X Y;have MJ : ¬ (nk = 1∧((n / 2 : Nat) : Int) ∉ skip):=(fun q=>by have:=hb.2 q; cases this);by_cases k2 : nk = 2
     ·refine jU (Ai @g9 (mr k2)) fun K hK=>?_;exact hK _ _ (h2 _ true ⟨fun _=>.inr k2,fun _=>rfl⟩ g1 g2 g9 g3 rfl)
     ·refine jU (Ai @g9 (lU k2)) fun K hK=>?_;exact hK _ _ (h2 _ false ⟨(by intro h; cases h),fun q=>by rcases q with q | q; exact absurd q MJ; exact absurd q k2⟩ g1 g2 g9 g3 rfl)
   clear ee;by_cases k1 : nk = 1
   ·refine jU (Ai @g9 (Ai (mr k1) (Ai @g2 (Ai @g1 (Ai @lV (eG n (by omega))))))) fun K hK=>?_;refine ad (H6 _ _) ?_;rintro r s1 ⟨rfl,rfl⟩;by_cases hs : ((n / 2 : Nat) : Int) ∈ skip
    ·rw [decide_eq_true hs];refine jM ?_;exact hK _ _ (h4 _ false ⟨(by intro h; cases h),fun q=>absurd hs q.2⟩ g1 g2 g9 g3 rfl)
    ·rw [decide_eq_false hs];refine jM ?_;exact hK _ _ (h4 _ true ⟨fun _=>⟨k1,hs⟩,fun _=>rfl⟩ g1 g2 g9 g3 rfl)
   ·refine jU (Ai @g9 (lU k1)) fun K hK=>?_;exact hK _ _ (h4 _ false ⟨(by intro h; cases h),fun q=>absurd q.1 k1⟩ g1 g2 g9 g3 rfl)
  clear br;by_cases k0 : nk = 0
  ·obtain rfl : ok = false:=by
    cases ok with
    | false=>rfl
    | true=>exact absurd k0 (iz rfl)
   refine jU (Ai @g9 (Ai @g11 (mr k0))) fun K hK=>?_;exact hK _ _ (h3 _ g1 g2 g9 g3 rfl)
  ·refine jU (Ai @g9 (lU k0)) fun K hK=>?_;exact hK _ _ (h3 _ g1 g2 g9 g3 rfl)
 clear RK;rcases AL with AL | AL
 ·rw [AL] at yD;refine jT fun K hK=>?_;refine ad (yD _) ?_;rintro r s1 ⟨rfl,rfl⟩;refine jM ?_;exact hK _ _ (h0 _ 0 false (by intro h; cases h) rfl rfl rfl rfl rfl rfl rfl)
 ·cases KJ : fV (n : Int) with
  | none =>
   rw [KJ] at yD;refine jT fun K hK=>?_;refine ad (yD _) ?_;rintro r s1 ⟨rfl,rfl⟩;refine jM ?_;exact hK _ _ (h0 _ 0 false (by intro h; cases h) rfl rfl rfl rfl rfl rfl rfl)
  | some p =>
   rw [KJ] at yD;refine jT fun K hK=>?_;refine ad (yD _) ?_;rintro r s1 ⟨rfl,rfl⟩;refine jM ?_;exact hK _ _ (h0 _ p.1 true (fun _=>AL) rfl rfl rfl rfl rfl rfl rfl)
end Go.Proofs.YtbiefppedlodiaaGreatDoor
