/- Contracts of functions, each walked once; each theorem states its conditions. -/
import Derived.Test.YtcjifoccjlpapaaGreatDoorAMp6
import Derived.Test.YtcjifoccjlpapaaGreatDoorW1
import Derived.Test.YtcjifoccjlpapaaGreatDoorW4
import Derived.Test.YtcjifoccjlpapaaGreatDoorW2
import Derived.Test.YtcjifoccjlpapaaGreatDoorW3
set_option linter.unusedSimpArgs false
set_option linter.unusedVariables false
open Nat renaming reduceLT → Na, reduceLeDiff → Nb, reduceEqDiff → Nc, reduceAdd → Nk, reduceMul → Nf, reducePow → Ng, reduceSub → Nh, reduceBEq → Nz
open Int renaming reduceLT → Za, reduceLE → Zb, reduceToNat → Zc
open And renaming intro → Ai
open Go.AM renaming ashift → Qa, aconv → Qb, aindexAddr → Qc, aindex → Qd, aslice → Qe, abuiltin → Qf, awp_reg_seq → wS, awp_reg_end → wE, awp_seq_k → wK, awp_cond_k → wC
open Go.AM.AV renaming cells → Qg, one → Qh
set_option maxRecDepth 100000
set_option maxHeartbeats 8000000
namespace Go.Proofs.YtcjifoccjlpapaaGreatDoor
open Go Go.AM Go.Proofs Tryz
variable {Γ : Nat→List AV}
def rf (cs : List AV) (i : Nat) : AV:=.sl 1 64 (List.drop (64 * i) (List.take (64 * i + 64) cs)) .full
theorem Gf (cs : List AV) (t e m : Nat) (hl : cs.length = 64 * m) (hm : m≤2 ^ 40) :
  QF prog Γ 162 [.cX [.sl 1 (64 * m) cs (.own t e)],.cX [.v (.int .i64 64)]] ((List.range m).map (rf cs)):=by
 intro S l G W lb vN Sd hs hy
 refine callsIn_of_wp func162 rfl trivial ?_
 have Ss:=Rel.entry (N:=31) (args:=[.v (.func (.yield l) #[] #[]),.cX [.sl 1 (64 * m) cs (.own t e)],.cX [.v (.int .i64 64)]]) (vs:=.func (.yield l) #[] #[] :: lb) hs (by simp only [al]; exact ⟨_,_,rfl,by simp [ar],by simpa only [al] using Sd⟩) (by simp) vN
 rw [show (#[.func (.yield l) #[] #[]] ++ lb.toArray : Array Value) = (.func (.yield l) #[] #[] :: lb).toArray from by simp,ntmps162]
 refine wpIn_seq ?_
 refine mq (l:=none) (K:=fun E1 s1=>E1 0 = .v (.func (.yield l) #[] #[])∧E1 1 = .cX [.sl 1 (64 * m) cs (.own t e)]∧E1 2 = .cX [.v (.int .i64 64)]∧E1 4 = .v (.int .i64 0)∧s1 = S 0) ?_ Ss ?_
 ·simp only [↓DN,Qa,Qb,Qc,Qd,Qe,Qf,Qg,Qh,reduceCtorEq,↓reduceIte,Na,Nb,Nc,Nk,Nf,Ng,Nh,Za,Zb,Zc,TT]
 ·rintro G0 E0 s0 a0 w0 Tq JO ⟨e0,e1,e2,e4,rfl⟩
  refine wpIn_block ?_
  refine wpIn_loop (fun a w=>∃ (i : Nat) (G1 : Gh) (E1 : Env),i≤m∧G.le G1∧Rel Γ 31 G1 E1 (S i) a w∧E1 0 = .v (.func (.yield l) #[] #[])∧E1 1 = .cX [.sl 1 (64 * m) cs (.own t e)]∧E1 2 = .cX [.v (.int .i64 64)]∧E1 4 = .v (.int .i64 ((64 * i : Nat) : Int)))
   (fun a _=>match a.tmps.getD 4 undef with | .int _ x=>64 * m - x.toNat | _=>0) ⟨0,G0,E0,Nat.zero_le _,Tq,JO,e0,e1,e2,e4⟩ ?_
  rintro a w ⟨i,G1,E1,hi,hle,hr,e0,e1,e2,e4⟩
  have hmu : a.tmps.getD 4 undef = .int .i64 ((64 * i : Nat) : Int):=by
   have:=hr.tmps 4
   rw [e4] at this
   simpa only [ar] using this
  refine wpIn_seq ?_
  by_cases aO : i < m
  ·have cN : ((64 * i : Nat) : Int) < ((64 * m : Nat) : Int):=by omega
   refine cI.wide (Q:=fun x E' s'=>x = .normal∧s' = S i∧E' 0 = .v (.func (.yield l) #[] #[])∧E' 1 = .cX [.sl 1 (64 * m) cs (.own t e)]∧E' 2 = .cX [.v (.int .i64 64)]∧E' 4 = .v (.int .i64 ((64 * i : Nat) : Int))) ?_ hr ?_
   ·refine jB (Ai @e1 (Ai @e4 (decide_eq_true cN))) ?_
    refine jE ?_
    refine ad ?_
    simp only [aG,e0,e1,e2,e4,Nc,↓reduceIte,and_self]
   ·rintro x G2 E2 s2 a2 w2 xN qz ⟨rfl,rfl,f0,f1,f2,f4⟩
    refine wpIn_seq (wpIn_block (wpIn_seq ?_))
    have h0 : (0 : Int)≤((64 * i : Nat) : Int):=by omega
    have oc : ((64 * i : Nat) : Int)≤((64 * m : Nat) : Int):=by omega
    refine cI.wide (Q:=fun x E' s'=>x = .normal∧s' = S i∧E' 0 = .v (.func (.yield l) #[] #[])∧E' 1 = .cX [.sl 1 (64 * m) cs (.own t e)]∧E' 2 = .cX [.v (.int .i64 64)]∧E' 4 = .v (.int .i64 ((64 * i : Nat) : Int))∧E' 5 = .v (.int .i64 64)) ?_ qz ?_
    ·have Hj : ¬ (((64 * m - 64 * i : Nat) : Int) < 64):=by omega
     refine fy T.mixed [] (by kernel_rfl) ?_
     intro K hK
     refine jV (Ai @f1 (Ai @f2 (Ai @f4 (Ai @h0 (Ai @oc (Ai @Int.le_refl @Hj)))))) hK ?_;clear hK K
     simp only [aG,f0,f1,f2,f4,Nc,↓reduceIte,and_self]
    ·rintro x G3 E3 s3 a3 w3 RA sF ⟨rfl,rfl,g0,g1,g2,g4,g5⟩
     refine wpIn_seq ?_
     have Ea : jn .i64 ((64 * i : Nat) : Int) 64 = ((64 * i + 64 : Nat) : Int):=nQ (64 * i) 64 (by omega)
     have sW : ((64 * i : Nat) : Int)≤((64 * i + 64 : Nat) : Int):=by omega
     have tP : ((64 * i + 64 : Nat) : Int)≤((64 * m : Nat) : Int):=by omega
     refine vP (l:=l)
      (K1:=fun E' s'=>s' = S i∧E' 0 = .v (.func (.yield l) #[] #[])∧E' 1 = .cX [.sl 1 (64 * m) cs (.own t e)]∧E' 2 = .cX [.v (.int .i64 64)]∧E' 4 = .v (.int .i64 ((64 * i : Nat) : Int))∧E' 28 = rf cs i)
      (K2:=fun E' s'=>s' = S (i + 1)∧E' 0 = .v (.func (.yield l) #[] #[])∧E' 1 = .cX [.sl 1 (64 * m) cs (.own t e)]∧E' 2 = .cX [.v (.int .i64 64)]∧E' 4 = .v (.int .i64 ((64 * i : Nat) : Int))∧E' 30 = .v (.bool false))
      rfl rfl (by decide) ?_ sF ?_ ?_
     ·intro ops
      simp only [↓DN,Qa,Qb,Qc,Qd,Qe,Qf,Qg,Qh,reduceCtorEq,↓reduceIte,Na,Nb,Nc,Nk,Nf,Ng,Nh,Za,Zb,Zc,TT,g0,g1,g2,g4,g5,Ea,h0,sW,tP]
      rw [rf,show 64 * i + 64 - 64 * i = 64 by omega]
     ·rintro ops G4 E4 s4 a4 w4 oP Ci ⟨rfl,k0,k1,k2,k4,Z9⟩
      have hu:=Ci.tmps 28
      rw [Z9] at hu
      obtain ⟨fn,tmps,assign,body,q1,q2⟩:=hy i (rf cs i) G4 (a4.tmps.getD 28 undef) w4 (by simp [aO]) (hle.trans (xN.trans (RA.trans oP))) Ci.st hu
      refine ⟨fn,tmps,assign,body,q1,RoundIn.mono (F:=Fence.wide) q2 ?_⟩
      rintro e' W' ⟨rfl,G5,b1,b2⟩
      refine ⟨rfl,G5,S (i + 1),b1,b2,?_⟩
      simp only [↓DN,Qa,Qb,Qc,Qd,Qe,Qf,Qg,Qh,reduceCtorEq,↓reduceIte,Na,Nb,Nc,Nk,Nf,Ng,Nh,Za,Zb,Zc,TT]
      simp only [aG,k0,k1,k2,k4,Nc,↓reduceIte,and_self]
     ·rintro G4 E4 s4 a4 w4 oP Ci ⟨rfl,k0,k1,k2,k4,k30⟩
      show Code.wpIn Fence.wide 0 _ (Code.cond _ _ _) _ a4 w4
      refine cI.wide (Q:=fun x E' s'=>x = .normal∧s' = S (i + 1)∧E' 0 = .v (.func (.yield l) #[] #[])∧E' 1 = .cX [.sl 1 (64 * m) cs (.own t e)]∧E' 2 = .cX [.v (.int .i64 64)]∧E' 4 = .v (.int .i64 ((64 * i : Nat) : Int))) ?_ Ci ?_
      ·refine gE k30 (ad ?_)
       simp only [k0,k1,k2,k4,and_self]
      ·rintro x G5 E5 s5 a5 w5 od KV ⟨rfl,rfl,q0,q1,q2,q4⟩
       show Code.wpIn Fence.wide 0 _ (Code.region _ _ _) _ a5 w5
       refine mq (l:=none) (K:=fun E' s'=>s' = S (i + 1)∧E' 0 = .v (.func (.yield l) #[] #[])∧E' 1 = .cX [.sl 1 (64 * m) cs (.own t e)]∧E' 2 = .cX [.v (.int .i64 64)]∧E' 4 = .v (.int .i64 ((64 * (i + 1) : Nat) : Int))) ?_ KV ?_
       ·simp only [↓DN,Qa,Qb,Qc,Qd,Qe,Qf,Qg,Qh,reduceCtorEq,↓reduceIte,Na,Nb,Nc,Nk,Nf,Ng,Nh,Za,Zb,Zc,TT,q0,q1,q2,q4,Ea]
        rfl
       ·rintro G6 E6 s6 a6 w6 gX tR ⟨rfl,p0,p1,p2,p4⟩
        refine ⟨⟨i + 1,G6,E6,aO,hle.trans (xN.trans (RA.trans (oP.trans (od.trans gX)))),tR,p0,p1,p2,p4⟩,?_⟩
        have:=tR.tmps 4
        rw [p4] at this
        simp only [ar] at this
        rw [this,hmu]
        simp only [Int.toNat_natCast]
        omega
  ·obtain rfl : i = m:=by omega
   have cN : ¬ ((64 * i : Nat) : Int) < ((64 * i : Nat) : Int):=by omega
   refine cI.wide (Q:=fun x E' s'=>x = .exit 0∧s' = S i) ?_ hr ?_
   ·refine jB (Ai @e1 (Ai @e4 (decide_eq_false cN))) ?_
    refine jF ?_
    refine aB ?_
    exact ⟨rfl,rfl⟩
   ·rintro x G2 E2 s2 a2 w2 xN qz ⟨rfl,rfl⟩
    refine ⟨qz.defers.trans (xN.df.trans (hle.df.trans vN)),.tuple #[],?_,⟨_,rfl⟩,G2,hle.trans xN,by simpa using qz.st⟩
    rw [pj,results162]
    simp
theorem Gg (cs : List AV) (n t e : Nat) (s : AS) :
  ah prog Γ 98 [.sl 1 n cs (.own t e),.v (.int .i64 64)] s (fun r s'=>r = .tN 162 [.cX [.sl 1 n cs (.own t e)],.cX [.v (.int .i64 64)]]∧s' = s):=by
 refine ab func98 rfl ntmps98 results98 (by simp) ?_;refine bY 2 3 (by decide) (by decide) (by decide) ?_;intro K hK;refine jM ?_;intro o1 h1 o2 h2;refine hK _ _ o1 o2 _ _ rfl rfl h1 (by rw [AS.cQ]; exact h2) ?_;clear hK K;refine wK fun K hK=>?_;refine jA ?_;refine jF ?_;refine ad ?_;refine hK _ _ ?_;clear hK K;refine jA ?_;exact jJ
theorem CM (l : List UInt8) (i : Nat) (h : 64 * (i + 1)≤l.length) : rf (l.map aw) i = .sl 1 64 ((Sha.Eo l i).map aw) .full∧(Sha.Eo l i).length = 64:=by
 have e1 : Sha.Eo l i = List.drop (64 * i) (List.take (64 * i + 64) l):=by
  rw [Sha.Eo,List.drop_take];congr 1;omega
 constructor
 ·rw [rf,e1];simp only [List.map_drop,List.map_take]
 ·simp only [Sha.Eo,List.length_take,List.length_drop];omega
def KB (t : Sha.St) (i : Nat) : List UInt8:=((t.list.take i).map Sha.be).flatten
theorem CN (t : Sha.St) (i : Nat) (h : i < 8) : KB t i ++ Sha.be (t.list.getD i 0) = KB t (i + 1):=by
 rcases at8 h with rfl | rfl | rfl | rfl | rfl | rfl | rfl | rfl <;> rfl
theorem Zm (x : AV) : List.replicate 4 x = [x,x,x,x]:=rfl
theorem CO (t : Sha.St) : KB t 8 = t.bytes:=rfl
theorem Gi (t : Sha.St) (i : Nat) (h : i≤8) : (KB t i).length = 4 * i:=by
 rcases Nat.lt_or_ge i 8 with h' | h'
 ·rcases at8 h' with rfl | rfl | rfl | rfl | rfl | rfl | rfl | rfl <;> rfl
 ·obtain rfl : i = 8:=(by omega);rfl
theorem P9 (t : Sha.St) (i : Nat) (h : i < 8) : (gR t)[i]? = some (wV (t.list.getD i 0)):=by
 rcases at8 h with rfl | rfl | rfl | rfl | rfl | rfl | rfl | rfl <;> rfl
theorem rP (n9 : Γ 0 = gR Sha.H0) (hG : Γ 1 = Sha.K.map wV) (ls : List (List UInt8)) (sp : Sp) (hn : ls.length≤2 ^ 40) (hl : ls.flatten.length≤2 ^ 40) (s : AS) :
  ah prog Γ 38 [.sl 1 ls.length (ji ls) sp] s (fun r s'=>kW s (Sha.sum ls.flatten) r s'):=by
 generalize qH : ls.flatten = l at *
 have hf:=func38
 refine pS hf rfl (by rw [ntmps38]; simp) ?_
 rw [ntmps38]
 intro G a w vN hr
 refine wpIn_seq ?_
 refine mq (l:=none) (K:=fun E' s'=>s' = s∧E' 0 = .sl 1 ls.length (ji ls) sp) ?_ hr ?_
 ·simp only [↓DN,Qa,Qb,Qc,Qd,Qe,Qf,Qg,Qh,reduceCtorEq,↓reduceIte,Na,Nb,Nc,Nk,Nf,Ng,Nh,Za,Zb,Zc,TT]
 ·rintro G1 E1 s1 a1 w1 DI nF ⟨rfl,e0⟩
  refine wpIn_seq ?_
  refine mq (l:=none) (K:=fun E' s'=>∃ o3,s1.aJ o3 = none∧s' = s1.set o3 (gR Sha.H0)∧E' 0 = .sl 1 ls.length (ji ls) sp∧E' 3 = .ptr o3 0) ?_ nF ?_
  ·simp only [↓DN,Qa,Qb,Qc,Qd,Qe,Qf,Qg,Qh,reduceCtorEq,↓reduceIte,Na,Nb,Nc,Nk,Nf,Ng,Nh,Za,Zb,Zc,TT,n9]
   intro o ho
   exact ⟨o,ho,rfl,e0,rfl⟩
  ·rintro G2 E2 s2 a2 w2 xN qz ⟨o3,Zg,rfl,f0,f3⟩
   refine wpIn_seq (wpIn_seq ?_)
   have xd:=Sha.tE l
   have Nq:=Sha.Jh l
   obtain ⟨m,hm⟩ : ∃ m,(Sha.pad l).length = 64 * m:=⟨(Sha.pad l).length / 64,by omega⟩
   have hz : Sha.ix l.length < 64:=by rw [Sha.ix]; omega
   refine mq (l:=none) (K:=fun E' s'=>∃ t e,(s1.set o3 (gR Sha.H0)).le s'∧E' 3 = .ptr o3 0∧E' 12 = .tN 162 [.cX [.sl 1 (64 * m) ((Sha.pad l).map aw) (.own t e)],.cX [.v (.int .i64 64)]]) ?_ qz ?_
   ·simp only [↓DN,Qa,Qb,Qc,Qd,Qe,Qf,Qg,Qh,reduceCtorEq,↓reduceIte,Na,Nb,Nc,Nk,Nf,Ng,Nh,Za,Zb,Zc,TT,f0]
    refine ae (D8 ls sp (by omega) (by rw [qH]; omega) _) ?_
    intro r sa fQ
    rw [qH] at fQ
    simp only [↓DN,Qa,Qb,Qc,Qd,Qe,Qf,Qg,Qh,reduceCtorEq,↓reduceIte,Na,Nb,Nc,Nk,Nf,Ng,Nh,Za,Zb,Zc,TT]
    refine ae (D9 l (by omega) _ _ _ fQ) ?_
    intro r sb fQ
    obtain ⟨t,e,JO⟩:=gO fQ (by rw [← List.length_pos_iff]; omega)
    rw [JO,hm] at *
    simp only [↓DN,Qa,Qb,Qc,Qd,Qe,Qf,Qg,Qh,reduceCtorEq,↓reduceIte,Na,Nb,Nc,Nk,Nf,Ng,Nh,Za,Zb,Zc,TT]
    refine ae (Gg _ _ t e _) ?_
    rintro r sc ⟨rfl,rfl⟩
    simp only [↓DN,Qa,Qb,Qc,Qd,Qe,Qf,Qg,Qh,reduceCtorEq,↓reduceIte,Na,Nb,Nc,Nk,Nf,Ng,Nh,Za,Zb,Zc,TT]
    exact ⟨t,e,fQ.1,f3,rfl⟩
   ·rintro G3 E3 s3 a3 w3 oc sF ⟨t,e,hse,g3,g12⟩
    refine wpIn_block ?_
    have Js : G.le G3:=DI.trans (xN.trans oc)
    have Zn : G3.df = []:=Js.df.trans vN
    have RC : s3.aJ o3 = some (gR Sha.H0):=hse.aJ _ _ (AS.aj _ _ _)
    have Zo : m≤2 ^ 40:=by omega
    refine wpIn_mono (zq (p:=13) (g:=.tmp 12) sF Zn g12 (by kernel_rfl) (Gf ((Sha.pad l).map aw) t e m (by simpa using hm) Zo) (by decide) (fun i=>s3.set o3 (gR (Sha.hash (Sha.pad l) i))) (AS.LP RC) (fun x=>aG (aG E3 13 x) 4 x) ?_ ?_) ?_
    ·rintro lp i x G4 a4 W hx Ci
     refine mq (l:=some lp) (K:=fun E' s'=>E' = aG (aG E3 13 x) 4 x∧s' = s3.set o3 (gR (Sha.hash (Sha.pad l) i))) ?_ Ci ?_
     ·simp only [↓DN,Qa,Qb,Qc,Qd,Qe,Qf,Qg,Qh,reduceCtorEq,↓reduceIte,Na,Nb,Nc,Nk,Nf,Ng,Nh,Za,Zb,Zc,TT]
     ·rintro G5 E5 s5 a5 w5 od KV ⟨rfl,rfl⟩
      exact ⟨rfl,G5,od,KV⟩
    ·rintro lp i x G4 a4 W hx Ci
     refine wpIn_block ?_
     have hi : i < m:=by
      have:=(List.getElem?_eq_some_iff.1 hx).1
      simpa using this
     obtain rfl : rf ((Sha.pad l).map aw) i = x:=by simpa [hi] using hx
     obtain ⟨hcv,fM⟩:=CM (Sha.pad l) i (by omega)
     refine mq (l:=some lp) (K:=fun E' s'=>s' = s3.set o3 (gR (Sha.hash (Sha.pad l) (i + 1)))) ?_ Ci ?_
     ·simp only [↓DN,Qa,Qb,Qc,Qd,Qe,Qf,Qg,Qh,reduceCtorEq,↓reduceIte,Na,Nb,Nc,Nk,Nf,Ng,Nh,Za,Zb,Zc,TT,g3]
      rw [hcv]
      have N3:=KA hG (Sha.hash (Sha.pad l) i) (Sha.Ji _ i) (Sha.Eo (Sha.pad l) i) fM (s3.set o3 (gR (Sha.hash (Sha.pad l) i)))
      rw [ak,fM] at N3
      refine ae (ah.jq (.cons (.refl _) (.cons AV.db .nil)) N3) ?_
      rintro r sd ⟨rfl,rfl⟩
      simp only [↓DN,Qa,Qb,Qc,Qd,Qe,Qf,Qg,Qh,reduceCtorEq,↓reduceIte,Na,Nb,Nc,Nk,Nf,Ng,Nh,Za,Zb,Zc,TT,g3]
      rfl
     ·rintro G5 E5 s5 a5 w5 od KV rfl
      exact ⟨rfl,G5,od,KV.st⟩
    ·rintro x a4 w4 ⟨rfl,D,G4,oP,hD,hDk,rfl,N8⟩
     have JT : ((List.range m).map (rf ((Sha.pad l).map aw))).length = m:=by simp
     rw [JT] at N8
     obtain ⟨u,hu⟩ : ∃ u,u = Sha.hash (Sha.pad l) m:=⟨_,rfl⟩
     have TD : u.bytes = Sha.sum l:=by rw [hu,Sha.sum,hm,Nat.mul_div_cancel_left _ (by decide)]
     rw [← hu] at N8
     have RD : s1.le (s3.set o3 (gR u)):=by
      refine AS.bg (AS.le.trans ?_ hse) Zg _
      exact AS.bg (AS.le.refl s1) Zg _
     have Zi : (s3.set o3 (gR u)).aJ o3 = some (gR u):=AS.aj _ _ _
     obtain ⟨s4,xcD⟩ : ∃ s4,s4 = s3.set o3 (gR u):=⟨_,rfl⟩
     rw [← xcD] at N8 RD Zi
     show Code.wpIn Fence.wide 0 _ _ _ _ w4
     refine cI.behind (Q:=cF prog f38.results.toList (fun r s'=>kW s1 (Sha.sum l) r s')) sF oP hDk N8 Zn ?_ ?_
     ·refine jA ?_
      refine wK fun K hK=>?_
      refine jB (Ai @g3 @Zi) ?_
      refine ag ?_
      obtain ⟨Z0,hZ0⟩ : ∃ Z0,Z0 = gR u:=⟨_,rfl⟩
      refine aH (fun E s2=>∃ i : Nat,i≤8∧E 17 = .agg Z0∧E 18 = .v (.int .i64 i)∧kW s1 (KB u i) (E 5) s2)
       (fun E _=>match E 18 with | .v (.int _ i)=>8 - i.toNat | _=>0) ?_ ?_
      ·exact ⟨0,by omega,by simp only [aG,Nc,↓reduceIte,hZ0],by simp only [aG,↓reduceIte]; rfl,RD,.inl ⟨rfl,by simp only [aG,Nc,↓reduceIte]⟩⟩
      ·rintro E5 s5 ⟨i,hi,p17,Zp,Av⟩ -
       by_cases aO : i < 8
       ·have ik : (i : Int) < 8:=by omega
        have lI : (0 : Int)≤(i : Int):=by omega
        refine jB (Ai @Zp (decide_eq_true ik)) ?_
        refine wK fun K2 aX=>?_
        refine jE ?_
        refine ad ?_
        refine aX _ _ ?_;clear aX K2
        refine wK fun K3 bB=>?_
        refine ag ?_
        have kF:=P9 u i aO
        rw [← hZ0] at kF
        have vm:=CN u i aO
        have Te:=Gi u i hi
        generalize u.list.getD i 0 = x at *
        have Zq : lW .u32 (x : Int) 24 = ((x / 2 ^ 24 : Nat) : Int):=BI x 24 (by decide)
        have P4 : lW .u32 (x : Int) 16 = ((x / 2 ^ 16 : Nat) : Int):=BI x 16 (by decide)
        have s8 : lW .u32 (x : Int) 8 = ((x / 2 ^ 8 : Nat) : Int):=BI x 8 (by decide)
        refine jB (Ai @p17 (Ai @Zp (Ai @lI (Ai @ik (Ai @c8 @kF))))) ?_
        generalize tR : E5 5 = r6 at Av
        refine jU (Ai @tR (Ai @Zq (Ai @P4 (Ai @s8 @Zm)))) fun K hK=>?_
        refine eT (ds:=Sha.be x) Av rfl (by simp only [Sha.be,List.map_cons,List.map_nil,yD]) T.c5 T.b5 (by rw [Te]; simp only [Sha.be,List.length_cons,List.length_nil]; omega) ?_
        intro r2 s6 h6
        rw [vm] at h6
        refine hK _ _ ?_
        clear hK
        simp only [av,aq,if_true,if_false]
        refine bB _ _ ?_;clear bB K3
        refine jD (Ai @Zp (kg i (by omega))) ?_
        refine ⟨⟨i + 1,by omega,by simp only [aG,p17,Nc,↓reduceIte],by simp only [aG,↓reduceIte],by simpa only [aG,Nc,↓reduceIte] using h6⟩,?_⟩
        simp only [Zp,aG,↓reduceIte]
        omega
       ·have ik : ¬ (i : Int) < 8:=by omega
        obtain rfl : i = 8:=by omega
        refine jB (Ai @Zp (decide_eq_false ik)) ?_
        refine wK fun K2 aX=>?_
        refine jF ?_
        refine aB ?_
        simp only [av,aq,if_true]
        clear aX K2
        refine hK _ _ ?_;clear hK K
        rw [CO,TD] at Av
        generalize tR : E5 5 = r6 at Av
        refine jB @tR ?_
        refine bo ?_
        rw [results38]
        simp only [cF,bI,bM,dh,List.toList_toArray,↓bj]; try simp only [UP,DF,Nc,↓reduceIte,DT]
        exact ⟨_,_,AV.aL.refl _,AS.le.refl _,Av⟩
     ·intro e5 G5 E5 s5 a5 w5 od hD5 xcE KV TE
      refine ⟨?_,D,G5,E5,s5,Js.trans od,?_,hD5,xcE,KV,?_⟩
      ·cases e5 <;> simp only [cF] at TE <;> simp
      ·have q1:=sF.st.below.size
       have q2:=sF.st.base
       rw [Js.w0] at q1
       rw [Js.B] at q2
       exact ⟨Nat.le_trans q1 hD,Nat.le_trans q2 hD⟩
      ·cases e5 <;> simp only [cF] at TE <;> exact TE
theorem Qi (n : Nat) (h : n≤2 ^ 45) : kO .u64 (ee .u64 (n : Int)) 8 = ((8 * n * 2 ^ (8 * 0) % 18446744073709551616 : Nat) : Int):=by
 rw [lC rfl,show (8 : Int) = ((8 : Nat) : Int) from rfl,R3 rfl];simp only [IntKind.bits];congr 1;omega
theorem Nr (n j : Nat) (hj : j < 8) : ee .u8 (lW .u64 ((8 * n * 2 ^ (8 * j) % 18446744073709551616 : Nat) : Int) 56) = ee .u8 ((8 * n / 2 ^ (8 * (7 - j)) : Nat) : Int):=by
 rw [show (56 : Int) = ((56 : Nat) : Int) from rfl,vJ,lC rfl,lC rfl];simp only [IntKind.bits];congr 1;rw [show min 56 64 = 56 from rfl];have : j = 0∨j = 1∨j = 2∨j = 3∨j = 4∨j = 5∨j = 6∨j = 7:=(by omega);rcases this with rfl | rfl | rfl | rfl | rfl | rfl | rfl | rfl <;> simp only [Nat.reduceMul,Nat.reduceSub,Nat.reducePow] <;> omega
theorem Qj (n j : Nat) (hj : j < 8) : oY .u64 ((8 * n * 2 ^ (8 * j) % 18446744073709551616 : Nat) : Int) 8 = ((8 * n * 2 ^ (8 * (j + 1)) % 18446744073709551616 : Nat) : Int):=by
 rw [show (8 : Int) = ((8 : Nat) : Int) from rfl,Hk rfl];simp only [IntKind.bits];congr 1;rw [show min 8 64 = 8 from rfl];have : j = 0∨j = 1∨j = 2∨j = 3∨j = 4∨j = 5∨j = 6∨j = 7:=(by omega);rcases this with rfl | rfl | rfl | rfl | rfl | rfl | rfl | rfl <;> simp only [Nat.reduceMul,Nat.reduceAdd,Nat.reducePow] <;> omega
theorem Eb (l : List UInt8) (hl : l.length≤2 ^ 44) (s : AS) :
  ah prog Γ 107 [.v (.string ⟨l.toArray⟩)] s (fun r s'=>kW s (Sha.pad l) r s'):=by
 refine ab func107 rfl ntmps107 results107 (by simp) ?_;refine jA ?_;refine Di rfl (by decide) ?_;intro ops;refine jM ?_;refine ⟨fun r s'=>kW s l r s',fun G a w hr=>?_,?_⟩
 ·exact Dh (l:=l) (src:=9) (dst:=22) (e:=5) (x:=.tmp 6) rfl underlying9 underlying22 underlying5 (by simp only [aN,aG,↓reduceIte]) hr.eval hr.st
 intro r s1 h1;simp only [↓DN,Qa,Qb,Qc,Qd,Qe,Qf,Qg,Qh,reduceCtorEq,↓reduceIte,Na,Nb,Nc,Nk,Nf,Ng,Nh,Za,Zb,Zc,TT,List.replicate_one,Nat.lt_irrefl];refine eT (ds:=[128]) h1 rfl rfl T.c5 T.b5 (by simp; omega) ?_;intro r2 s2 h2;refine wK fun K hK=>?_;refine ag ?_;refine aH (fun E s2=>∃ k : Nat,k≤Sha.ix l.length∧E 0 = .v (.string ⟨l.toArray⟩)∧kW s (l ++ [128] ++ List.replicate k 0) (E 3) s2)
  (fun E s2=>match E 3 with | .sl _ n _ _=>l.length + 1 + Sha.ix l.length - n | _=>0) ?_ ?_
 ·exact ⟨0,Nat.zero_le _,by simp only [aG,dE,Nc,↓reduceIte,List.getD_cons_zero],by simpa only [aG,↓reduceIte,List.replicate_zero,List.append_nil] using h2⟩
 ·rintro E2 s3 ⟨k,hk,Ik,tG⟩ -
  refine wK fun K2 aX=>?_;obtain ⟨t,e,g0⟩:=gO tG (by simp);have hlen : (l ++ [128] ++ List.replicate k 0).length = l.length + 1 + k:=(by simp; omega);generalize hL : l ++ [128] ++ List.replicate k 0 = L at *
  have hLn : L≠[]:=(by intro e'; rw [e'] at hlen; simp only [List.length_nil] at hlen; omega);by_cases ll : k = Sha.ix l.length
  ·have h56 : L.length % 64 = 56:=(by rw [hlen,ll,Sha.ix]; omega);have hb:=Rz (show ((L.length % 64 : Nat) : Int) = 56 by omega);refine jB (Ai @g0 (Ai @Jr @hb)) ?_;refine wC fun X Y hX hY=>?_;refine jP (Ai @DB @hb) ?_;refine hY ?_;clear hX hY X Y;refine aB ?_;simp only [av,aq,if_true];clear aX K2;refine hK _ _ ?_;clear hK K;rw [← g0];have Te:=Qi l.length (by omega);refine jB (Ai @Ik (Ai @rn @Te)) ?_;refine wK fun K hK=>?_;refine jA ?_;refine ag ?_;refine aH (fun E s2=>∃ j : Nat,j≤8∧E 4 = .v (.int .u64 ((8 * l.length * 2 ^ (8 * j) % 18446744073709551616 : Nat) : Int))∧E 5 = .v (.int .i64 j)∧kW s (L ++ (Sha.yi l.length).take j) (E 3) s2)
    (fun E s2=>match E 5 with | .v (.int _ i)=>8 - i.toNat | _=>0) ?_ ?_
   ·exact ⟨0,by omega,by simp only [aG,Nc,↓reduceIte,Nat.mul_zero,Nat.pow_zero,Nat.mul_one],rfl,by simpa only [aG,Nc,↓reduceIte,List.take_zero,List.append_nil] using tG⟩
   ·rintro E3 s4 ⟨j,hj,f4,f5,yj⟩ -
    refine wK fun K2 aX=>?_;by_cases gh : j < 8
    ·have bK : (j : Int) < 8:=(by omega);refine jB (Ai @f5 (decide_eq_true bK)) ?_;refine jE ?_;refine ad ?_;refine aX _ _ ?_;clear aX K2;refine wK fun K3 bB=>?_;refine ag ?_;have hby:=Nr l.length j gh;have TC:=Qj l.length j gh;generalize 8 * l.length * 2 ^ (8 * j) % 18446744073709551616 = y at *
     generalize tR : E3 3 = r6 at yj;refine wS fun K hK=>?_;simp only [↓DN,Qa,Qb,Qc,Qd,Qe,Qf,Qg,Qh,reduceCtorEq,↓reduceIte,Na,Nb,Nc,Nk,Nf,Ng,Nh,Za,Zb,Zc,TT,tR,f4,hby,List.replicate_one,Nat.lt_irrefl];refine eT (ds:=[UInt8.ofNat (8 * l.length / 2 ^ (8 * (7 - j)))]) yj rfl (by rw [List.map_cons,yD]; rfl) T.c5 T.b5 (by rw [List.length_append,List.length_take,hlen]; unfold Sha.ix at hk; simp only [List.length_cons,List.length_nil]; omega) ?_;intro r2 s5 h5;rw [List.append_assoc,← Ge _ _ _ (Gd l.length j gh)] at h5;refine hK _ _ ?_;clear hK K;refine jD (Ai @f4 @TC) ?_;simp only [av,aq,if_true,if_false];refine bB _ _ ?_;clear bB K3;refine jD (Ai @f5 (kg j (by omega))) ?_;refine ⟨⟨j + 1,by omega,rfl,rfl,by simpa only [aG,Nc,↓reduceIte] using h5⟩,?_⟩;simp only [f5,aG,↓reduceIte];omega
    ·have bK : ¬ (j : Int) < 8:=(by omega);obtain rfl : j = 8:=(by omega);refine jB (Ai @f5 (decide_eq_false bK)) ?_;refine jF ?_;refine aB ?_;simp only [av,aq,if_true];clear aX K2;refine hK _ _ ?_;clear hK K;have gC : L ++ (Sha.yi l.length).take 8 = Sha.pad l:=by
      rw [← hL,ll,Sha.pad,show (Sha.yi l.length).take 8 = Sha.yi l.length from rfl];simp
     rw [gC] at yj;generalize tR : E3 3 = r6 at yj;refine jB @tR ?_;refine jI ?_;exact ⟨_,_,AV.aL.refl _,AS.le.refl _,yj⟩
  ·have h56 : L.length % 64≠56:=(by rw [hlen]; unfold Sha.ix at hk ll; omega);have hb:=Ry (show ((L.length % 64 : Nat) : Int)≠56 by omega);refine jB (Ai @g0 (Ai @Jr @hb)) ?_;refine wC fun X Y hX hY=>?_;refine jP (Ai @DB @hb) ?_;refine hX ?_;clear hX hY X Y;refine ad ?_;refine aX _ _ ?_;clear aX K2;refine ag ?_;generalize tR : E2 3 = r6 at tG;refine wE fun K hK=>?_;simp only [↓DN,Qa,Qb,Qc,Qd,Qe,Qf,Qg,Qh,reduceCtorEq,↓reduceIte,Na,Nb,Nc,Nk,Nf,Ng,Nh,Za,Zb,Zc,TT,tR,List.replicate_one,Nat.lt_irrefl];refine eT (ds:=[0]) tG rfl rfl T.c5 T.b5 (by rw [hlen]; unfold Sha.ix at hk; simp; omega) ?_;intro r2 s2 h2;have hL2 : L ++ [0] = l ++ [128] ++ List.replicate (k + 1) 0:=(by rw [← hL,List.replicate_succ',List.append_assoc _ (List.replicate k 0)]);rw [hL2] at h2;refine hK _ _ ?_;clear hK K;simp only [av,aq,if_true,if_false];obtain ⟨t2,e2,q0⟩:=gO h2 (by simp);refine ⟨⟨k + 1,by omega,Ik,by simpa only [aG,↓reduceIte] using h2⟩,?_⟩;rw [tR] at g0;simp only [aG,↓reduceIte,tR,q0,g0,List.length_append,List.length_replicate,List.length_cons,List.length_nil,hlen];omega
theorem Qk (a b c d : UInt8) : Li .u32 (Li .u32 (Li .u32 (oY .u32 (ee .u32 (a.toNat : Int)) 24) (oY .u32 (ee .u32 (b.toNat : Int)) 16)) (oY .u32 (ee .u32 (c.toNat : Int)) 8)) (ee .u32 (d.toNat : Int)) = ((Sha.Ib a.toNat b.toNat c.toNat d.toNat : Nat) : Int):=by
 have ha:=a.toNat_lt; have hb:=b.toNat_lt; have hc:=c.toNat_lt; have hd:=d.toNat_lt;have e1 : ∀ x : UInt8,ee .u32 (x.toNat : Int) = ((x.toNat : Nat) : Int):=fun x=>by
  have:=x.toNat_lt;rw [lC rfl];simp only [IntKind.bits];congr 1;omega
 have Zq : ∀ x : Nat,x < 256→oY .u32 (x : Int) 24 = ((x * 16777216 : Nat) : Int):=fun x hx=>by
  have:=Nd x 24 (by decide);rw [show ((24 : Nat) : Int) = 24 from rfl] at this;rw [this];congr 1;simp only [Nat.reducePow];omega
 have P4 : ∀ x : Nat,x < 256→oY .u32 (x : Int) 16 = ((x * 65536 : Nat) : Int):=fun x hx=>by
  have:=Nd x 16 (by decide);rw [show ((16 : Nat) : Int) = 16 from rfl] at this;rw [this];congr 1;simp only [Nat.reducePow];omega
 have s8 : ∀ x : Nat,x < 256→oY .u32 (x : Int) 8 = ((x * 256 : Nat) : Int):=fun x hx=>by
  have:=Nd x 8 (by decide);rw [show ((8 : Nat) : Int) = 8 from rfl] at this;rw [this];congr 1;simp only [Nat.reducePow];omega
 rw [e1,e1,e1,e1];generalize a.toNat = a at *
 generalize b.toNat = b at *
 generalize c.toNat = c at *
 generalize d.toNat = d at *
 rw [Zq a ha,P4 b hb,s8 c hc];have o1 : a * 16777216 ||| b * 65536 = a * 16777216 + b * 65536:=by
  have:=Nat.shiftLeft_add_eq_or_of_lt (b:=b * 65536) (i:=24) (by simp only [Nat.reducePow]; omega) a;rw [Nat.shiftLeft_eq] at this;simp only [Nat.reducePow] at this;exact this.symm
 have o2 : (a * 16777216 + b * 65536) ||| c * 256 = a * 16777216 + b * 65536 + c * 256:=by
  have:=Nat.shiftLeft_add_eq_or_of_lt (b:=c * 256) (i:=16) (by simp only [Nat.reducePow]; omega) (a * 256 + b);rw [Nat.shiftLeft_eq] at this;simp only [Nat.reducePow] at this;have e : (a * 256 + b) * 65536 = a * 16777216 + b * 65536:=(by simp only [Nat.add_mul,Nat.mul_assoc,Nat.reduceMul]);rw [e] at this;exact this.symm
 have o3 : (a * 16777216 + b * 65536 + c * 256) ||| d = a * 16777216 + b * 65536 + c * 256 + d:=by
  have:=Nat.shiftLeft_add_eq_or_of_lt (b:=d) (i:=8) (by simp only [Nat.reducePow]; omega) (a * 65536 + b * 256 + c);rw [Nat.shiftLeft_eq] at this;simp only [Nat.reducePow] at this;have e : (a * 65536 + b * 256 + c) * 256 = a * 16777216 + b * 65536 + c * 256:=(by simp only [Nat.add_mul,Nat.mul_assoc,Nat.reduceMul]);rw [e] at this;exact this.symm
 rw [Ze _ _ (by omega) (by omega),o1,Ze _ _ (by omega) (by omega),o2,Ze _ _ (by omega) (by omega),o3,Sha.Ib];simp only [Nat.add_mul,Nat.mul_assoc,Nat.reduceMul]
structure Kp (oh m : Nat) (pl : List UInt8) (sp : Sp) (i : Nat) (E : Env) : Prop where
 h3 : E 3 = .dj oh 0 1 8 8
 h4 : E 4 = .sl 1 64 (Sha.K.map wV) .no
 h5 : E 5 = .sl 1 (64 * m) (pl.map aw) sp
 h6 : E 6 = .v (.int .i64 ((64 * i : Nat) : Int))
theorem Kp.aG {oh m i d : Nat} {pl : List UInt8} {sp : Sp} {E : Env} {v : AV} (h : Kp oh m pl sp i E) (hd : d≠3∧d≠4∧d≠5∧d≠6) : Kp oh m pl sp i (aG E d v) :=
 ⟨by rw [eG _ _ (Ne.symm hd.1)]; exact h.h3,by rw [eG _ _ (Ne.symm hd.2.1)]; exact h.h4,by rw [eG _ _ (Ne.symm hd.2.2.1)]; exact h.h5,by rw [eG _ _ (Ne.symm hd.2.2.2)]; exact h.h6⟩
structure Kq (ow : Nat) (E : Env) : Prop where
 h7 : E 7 = .dj ow 0 1 64 64
theorem Kq.aG {ow d : Nat} {E : Env} {v : AV} (h : Kq ow E) (hd : d≠7) : Kq ow (aG E d v):=⟨by rw [eG _ _ (Ne.symm hd)]; exact h.h7⟩
structure Kr (cs : List AV) (sp : Sp) (E : Env) : Prop where
 Je : E 13 = .sl 1 8 cs sp
theorem Kr.aG {cs : List AV} {sp : Sp} {d : Nat} {E : Env} {v : AV} (h : Kr cs sp E) (hd : d≠13) : Kr cs sp (aG E d v):=⟨by rw [eG _ _ (Ne.symm hd)]; exact h.Je⟩
theorem xcF (l : List UInt8) (i : Nat) (h : i < l.length) : List.take 1 (List.drop i (l.map aw)) = [.v (.int .u8 ((l.getD i 0).toNat : Int))]:=by
 have : (l.map aw)[i]? = some (aw (l.getD i 0)):=by
  rw [List.getElem?_map,List.getElem?_eq_getElem h];simp only [Option.map_some,List.getD,List.getElem?_eq_getElem h,Option.getD_some]
 rw [drop_cons _ _ _ this];rfl
theorem Zr (l : List UInt8) (i : Nat) (h : i < l.length) : List.map aw (List.take 1 (List.drop i l)) = [.v (.int .u8 ((l.getD i 0).toNat : Int))]:=by
 rw [List.map_take,List.map_drop];exact xcF l i h
theorem Ns (l : List UInt8) (i j : Nat) (h : j < 64) (hl : 64 * i + j < l.length) : (Sha.Eo l i).getD j 0 = l.getD (64 * i + j) 0:=by
 simp only [Sha.Eo,List.getD_eq_getElem?_getD,List.getElem?_take,if_pos h,List.getElem?_drop]
theorem xcG (x : AV) : List.replicate 8 x = [x,x,x,x,x,x,x,x]:=rfl
theorem Zs (l : List Nat) (i : Nat) (h : i < l.length) : List.drop i (l.map wV) = wV (l.getD i 0) :: List.drop (i + 1) (l.map wV):=drop_cons _ _ _ (Ap l i h)
theorem lL (l : List UInt8) (hl : l.length≤2 ^ 40) (s : AS) :
  ah prog Γ 41 [.v (.string ⟨l.toArray⟩)] s (fun r s'=>r = .v (.string ⟨(Sha.sum l).toArray⟩)∧s' = s):=by
 refine ab func41 rfl ntmps41 results41 (by simp) ?_;refine jA ?_;refine De rfl (by decide) (fun r s'=>∃ ob,s.aJ ob = none∧r = .dj ob 0 (prog.cellsOf 153) 8 8∧s' = s.set ob (gR Sha.H0)) (fun G a w hr=>?_) ?_
 ·exact EZ (cs:=gR Sha.H0) (e:=153) rfl underlying163 T.Sx (by rw [T.Dn]; decide) (by rw [T.Dn]; decide) (by rw [T.Dn]; rfl) (by simp only [T.Dn]; rfl) hr.eval hr.st
 rw [T.Dn];rintro r s1 ⟨oh,hoh,rfl,rfl⟩;refine jM ?_;refine jK (Ig _) ?_;rintro s2 rfl;refine jQ fun K hK=>?_;refine ae (Eb l (by omega) _) ?_;intro r s1 fQ;have xd:=Sha.tE l;have Nq:=Sha.Jh l;obtain ⟨m,hm⟩ : ∃ m,(Sha.pad l).length = 64 * m:=⟨(Sha.pad l).length / 64,by omega⟩;have hz : Sha.ix l.length < 64:=(by rw [Sha.ix]; omega);have Zo : 64 * m≤2 ^ 41:=(by omega);obtain ⟨tk,e,JO⟩:=gO fQ (by rw [← List.length_pos_iff]; omega);rw [hm] at JO;subst JO;have hle : s.le s1:=AS.le.trans (AS.bg (AS.le.refl s) hoh _) fQ.1;have qe : s1.aJ oh = some (gR Sha.H0):=fQ.1.aJ _ _ (AS.aj _ _ _);clear fQ;refine jR hK ?_;clear hK K;have J5 : (Sha.hash (Sha.pad l) m).bytes = Sha.sum l:=(by rw [Sha.sum,hm,Nat.mul_div_cancel_left _ (by decide)]);obtain ⟨pl,xcH⟩ : ∃ pl,pl = Sha.pad l:=⟨_,rfl⟩;rw [← xcH] at hm J5 ⊢;refine wK fun K hK=>?_;refine jA ?_;refine ag ?_;refine aH (fun E s2=>∃ i : Nat,i≤m∧Kp oh m pl (.own tk e) i E∧s2.aJ oh = some (gR (Sha.hash pl i))∧s.le s2)
  (fun E _=>match E 6 with | .v (.int _ x)=>64 * m - x.toNat | _=>0) ?_ ?_
 ·exact ⟨0,Nat.zero_le _,⟨rfl,rfl,rfl,rfl⟩,qe,hle⟩
 ·rintro E1 s2 ⟨i,hi,hk,ho,hle⟩ -
  have e6:=hk.h6;have hmu:=hk.h6;refine wK fun K2 aX=>?_;by_cases aO : i < m
  ·have cN : ((64 * i : Nat) : Int) < ((64 * m : Nat) : Int):=(by omega);refine jB (Ai @e6 (Ai @hk.h5 (decide_eq_true cN))) ?_;refine jE ?_;refine ad ?_;refine aX _ _ ?_;clear aX K2;refine wK fun K3 bB=>?_;refine ag ?_;have fM : (Sha.Eo pl i).length = 64:=(CM pl i (by omega)).2;have Zt : ∀ j,j < 64→(Sha.Eo pl i).getD j 0 = pl.getD (64 * i + j) 0:=fun j hj=>Ns pl i j hj (by omega);have hpg : ∀ j,j < 64 * m→List.map aw (List.take 1 (List.drop j pl)) = [.v (.int .u8 ((pl.getD j 0).toNat : Int))]:=fun j hj=>Zr pl j (by omega);obtain ⟨c,hc⟩ : ∃ c,c = Sha.Eo pl i:=⟨_,rfl⟩;rw [← hc] at fM Zt;have tS : Sha.hash pl (i + 1) = Sha.mix (Sha.hash pl i) c:=(by rw [hc]; rfl);have il:=Sha.Ji pl i;generalize xhz : Sha.hash pl i = st at *
   refine jQ fun K hK=>?_;refine ⟨by decide,by decide,fun ow how=>?_⟩;have hwh : ow≠oh:=(fun e'=>by rw [e',ho] at how; cases how);have TG : s.aJ ow = none:=by
    cases hs : s.aJ ow with
    | none=>rfl
    | some cs=>rw [hle.aJ _ _ hs] at how; cases how
   refine hK _ _ ?_;clear hK;rw [show List.replicate 64 (AV.v (.int .u32 0)) = row c 0 from rfl];obtain ⟨E2,Jt⟩ : ∃ E2,E2 = (aG (aG (aG (aG (aG (aG E1 24 (AV.v (Value.int IntKind.i64 ((64 * i : Nat) : Int)))) 25 (AV.sl 1 (64 * m) (List.map aw pl) (Sp.own tk e))) 26 (AV.v (Value.int IntKind.i64 ((64 * m : Nat) : Int)))) 27 (AV.v (Value.bool true))) 30 (AV.dj ow 0 1 64 64)) 7 (AV.dj ow 0 1 64 64)):=⟨_,rfl⟩;have hk : Kp oh m pl (.own tk e) i E2:=by
    rw [Jt];repeat (first | exact hk | refine Kp.aG ?_ (by decide))
   have hq : Kq ow E2:=⟨by rw [Jt]; simp only [aG,↓reduceIte]⟩;rw [← Jt];clear Jt e6;refine wK fun K4 fS=>?_;refine jA ?_;refine ag ?_;refine aH (fun E s3=>∃ t : Nat,t≤16∧Kp oh m pl (.own tk e) i E∧Kq ow E∧E 8 = .v (.int .i64 t)∧s3.aJ ow = some (row c t)∧s3.aJ oh = some (gR st)∧s.le s3)
    (fun E _=>match E 8 with | .v (.int _ x)=>16 - x.toNat | _=>0) ?_ ?_
   ·exact ⟨0,by omega,(by repeat (first | exact hk | exact hq | refine Kp.aG ?_ (by decide) | refine Kq.aG ?_ (by decide))),(by repeat (first | exact hk | exact hq | refine Kp.aG ?_ (by decide) | refine Kq.aG ?_ (by decide))),rfl,AS.aj _ _ _,by rw [AS.aR _ hwh.symm]; exact ho,AS.bg hle TG _⟩
   ·rintro E3 s3 ⟨t,ht,hk,hq,g8,jw,jh,oc⟩ -
    refine wK fun K5 js=>?_;by_cases lq : t < 16
    ·have cN : (t : Int) < 16:=(by omega);refine jB (Ai @g8 (decide_eq_true cN)) ?_;refine jE ?_;refine ad ?_;refine js _ _ ?_;clear js K5;refine wK fun K6 oE=>?_;refine ag ?_;have a0 : jn .i64 ((64 * i : Nat) : Int) ((4 * t : Nat) : Int) = ((64 * i + 4 * t : Nat) : Int):=nQ _ _ (by omega);have a1 : jn .i64 ((64 * i + 4 * t : Nat) : Int) 1 = ((64 * i + 4 * t + 1 : Nat) : Int):=nQ _ 1 (by omega);have a2 : jn .i64 ((64 * i + 4 * t : Nat) : Int) 2 = ((64 * i + 4 * t + 2 : Nat) : Int):=nQ _ 2 (by omega);have a3 : jn .i64 ((64 * i + 4 * t : Nat) : Int) 3 = ((64 * i + 4 * t + 3 : Nat) : Int):=nQ _ 3 (by omega);have Zu : Sha.word c (Sha.m6 c t) t = Sha.Ib (pl.getD (64 * i + 4 * t) 0).toNat (pl.getD (64 * i + 4 * t + 1) 0).toNat (pl.getD (64 * i + 4 * t + 2) 0).toNat (pl.getD (64 * i + 4 * t + 3) 0).toNat:=by
      rw [Sha.word,if_pos lq,Zt _ (by omega),Zt _ (by omega),Zt _ (by omega),Zt _ (by omega)];rfl
     have ff:=yC c t (by omega);rw [Zu] at ff;simp only [wV] at ff;rw [← Qk] at ff;have p0:=hpg (64 * i + 4 * t) (by omega);have p1:=hpg (64 * i + 4 * t + 1) (by omega);have p2:=hpg (64 * i + 4 * t + 2) (by omega);have p3:=hpg (64 * i + 4 * t + 3) (by omega);have b0 : ((64 * i + 4 * t : Nat) : Int) < ((64 * m : Nat) : Int):=(by omega);have b1 : ((64 * i + 4 * t + 1 : Nat) : Int) < ((64 * m : Nat) : Int):=(by omega);have b2 : ((64 * i + 4 * t + 2 : Nat) : Int) < ((64 * m : Nat) : Int):=(by omega);have b3 : ((64 * i + 4 * t + 3 : Nat) : Int) < ((64 * m : Nat) : Int):=(by omega);have q0 : (0 : Int)≤((64 * i + 4 * t : Nat) : Int):=(by omega);have q1 : (0 : Int)≤((64 * i + 4 * t + 1 : Nat) : Int):=(by omega);have q2 : (0 : Int)≤((64 * i + 4 * t + 2 : Nat) : Int):=(by omega);have q3 : (0 : Int)≤((64 * i + 4 * t + 3 : Nat) : Int):=(by omega);have iO : (0 : Int)≤(t : Int):=(by omega);have Nt : (t : Int) < ((64 : Nat) : Int):=(by omega);have hlen:=cL c t (by omega);generalize pl.getD (64 * i + 4 * t) 0 = x0 at *
     generalize pl.getD (64 * i + 4 * t + 1) 0 = x1 at *
     generalize pl.getD (64 * i + 4 * t + 2) 0 = x2 at *
     generalize pl.getD (64 * i + 4 * t + 3) 0 = x3 at *
     obtain ⟨R,hR⟩ : ∃ R,R = row c t:=⟨_,rfl⟩;rw [← hR] at ff hlen jw;refine jB (Ai @hk.h6 (Ai @g8 (Ai (F9 t (by omega)) @a0))) ?_;refine fy T.mixed [32] (by kernel_rfl) ?_;intro K hK;refine jN (Ai @hk.h5 (Ai @hq.h7 (Ai @g8 (Ai @a1 (Ai @a2 (Ai @a3 (Ai @q0 (Ai @q1 (Ai @q2 (Ai @q3 (Ai @b0 (Ai @b1 (Ai @b2 (Ai @b3 (Ai @p0 (Ai @p1 (Ai @p2 (Ai @p3 (Ai @iO (Ai @Nt (Ai @jw (Ai @ff @hlen)))))))))))))))))))))) ?_;refine ⟨by omega,hK _ _ ?_⟩;clear hK;simp only [av,aq,if_true,if_false];refine oE _ _ ?_;clear oE K6;refine jD (Ai @g8 (kg t (by omega))) ?_;refine ⟨⟨t + 1,by omega,(by repeat (first | exact hk | exact hq | refine Kp.aG ?_ (by decide) | refine Kq.aG ?_ (by decide))),(by repeat (first | exact hk | exact hq | refine Kp.aG ?_ (by decide) | refine Kq.aG ?_ (by decide))),rfl,AS.aj _ _ _,by rw [AS.aR _ hwh.symm]; exact jh,AS.bg oc TG _⟩,?_⟩;simp only [g8,aG,↓reduceIte];omega
    ·have cN : ¬ (t : Int) < 16:=(by omega);obtain rfl : t = 16:=(by omega);refine jB (Ai @g8 (decide_eq_false cN)) ?_;refine jF ?_;refine aB ?_;simp only [av,aq,if_true];clear js K5;refine fS _ _ ?_;clear fS K4;have hk : Kp oh m pl (.own tk e) i (aG (aG E3 31 (AV.v (.int .i64 ((16 : Nat) : Int)))) 32 (AV.v (.bool false))):=(by repeat (first | exact hk | exact hq | refine Kp.aG ?_ (by decide) | refine Kq.aG ?_ (by decide)));have hq : Kq ow (aG (aG E3 31 (AV.v (.int .i64 ((16 : Nat) : Int)))) 32 (AV.v (.bool false))):=(by repeat (first | exact hk | exact hq | refine Kp.aG ?_ (by decide) | refine Kq.aG ?_ (by decide)));generalize (aG (aG E3 31 (AV.v (.int .i64 ((16 : Nat) : Int)))) 32 (AV.v (.bool false))) = E4 at *
     clear g8;refine wK fun K4 fS=>?_;refine jA ?_;refine ag ?_;refine aH (fun E s3=>∃ t : Nat,16≤t∧t≤64∧Kp oh m pl (.own tk e) i E∧Kq ow E∧E 10 = .v (.int .i64 t)∧s3.aJ ow = some (row c t)∧s3.aJ oh = some (gR st)∧s.le s3)
      (fun E _=>match E 10 with | .v (.int _ x)=>64 - x.toNat | _=>0) ?_ ?_
     ·exact ⟨16,by omega,by omega,(by repeat (first | exact hk | exact hq | refine Kp.aG ?_ (by decide) | refine Kq.aG ?_ (by decide))),(by repeat (first | exact hk | exact hq | refine Kp.aG ?_ (by decide) | refine Kq.aG ?_ (by decide))),rfl,jw,jh,oc⟩
     ·rintro E5 s4 ⟨t,ht,YP,hk,hq,g10,jw,jh,oP⟩ -
      refine wK fun K5 js=>?_;by_cases lq : t < 64
      ·have cN : (t : Int) < 64:=(by omega);refine jB (Ai @g10 (decide_eq_true cN)) ?_;refine jE ?_;refine ad ?_;refine js _ _ ?_;clear js K5;refine wK fun K6 oE=>?_;refine ag ?_;have iO : (0 : Int)≤(t : Int):=(by omega);have Nt : (t : Int) < ((64 : Nat) : Int):=(by omega);have n2 : (0 : Int)≤((t - 2 : Nat) : Int):=(by omega);have n7 : (0 : Int)≤((t - 7 : Nat) : Int):=(by omega);have n15 : (0 : Int)≤((t - 15 : Nat) : Int):=(by omega);have n16 : (0 : Int)≤((t - 16 : Nat) : Int):=(by omega);have m2 : ((t - 2 : Nat) : Int) < ((64 : Nat) : Int):=(by omega);have m7 : ((t - 7 : Nat) : Int) < ((64 : Nat) : Int):=(by omega);have Rp : ((t - 15 : Nat) : Int) < ((64 : Nat) : Int):=(by omega);have P3 : ((t - 16 : Nat) : Int) < ((64 : Nat) : Int):=(by omega);have w2 : ed .i64 (t : Int) 2 = ((t - 2 : Nat) : Int):=nR t 2 (by omega) (by omega);have w7 : ed .i64 (t : Int) 7 = ((t - 7 : Nat) : Int):=nR t 7 (by omega) (by omega);have w15 : ed .i64 (t : Int) 15 = ((t - 15 : Nat) : Int):=nR t 15 (by omega) (by omega);have Zv : ed .i64 (t : Int) 16 = ((t - 16 : Nat) : Int):=nR t 16 (by omega) (by omega);have d2:=kL c t (t - 2) (by omega);have d7:=kL c t (t - 7) (by omega);have d15:=kL c t (t - 15) (by omega);have d16:=kL c t (t - 16) (by omega);have hw : Sha.word c (Sha.m6 c t) t = Sha.ft (Sha.ft (Sha.ft (Sha.D3 ((Sha.m6 c t).getD (t - 2) 0) 17 19 10) ((Sha.m6 c t).getD (t - 7) 0)) (Sha.D3 ((Sha.m6 c t).getD (t - 15) 0) 7 18 3)) ((Sha.m6 c t).getD (t - 16) 0):=(by rw [Sha.word,if_neg (by omega)]);have ff:=yC c t lq;rw [hw] at ff;have hlen:=cL c t YP;have l2:=Sha.nP c t (t - 2);have P5:=Sha.nP c t (t - 15);generalize (Sha.m6 c t).getD (t - 2) 0 = y at *
       generalize (Sha.m6 c t).getD (t - 7) 0 = x7 at *
       generalize (Sha.m6 c t).getD (t - 15) 0 = x at *
       generalize (Sha.m6 c t).getD (t - 16) 0 = x16 at *
       obtain ⟨R,hR⟩ : ∃ R,R = row c t:=⟨_,rfl⟩;rw [← hR] at d2 d7 d15 d16 ff hlen jw;have y10 : lW .u32 (y : Int) 10 = ((y / 2 ^ 10 : Nat) : Int):=BI y 10 (by decide);have x3 : lW .u32 (x : Int) 3 = ((x / 2 ^ 3 : Nat) : Int):=BI x 3 (by decide);have v1:=qf _ _ (Sha.cM 17 l2) (Sha.cM 19 l2);have v2:=qf _ _ (Nat.xor_lt_two_pow (n:=32) (Sha.cM 17 l2) (Sha.cM 19 l2)) (Nat.lt_of_le_of_lt (Nat.div_le_self y (2 ^ 10)) l2);have v3:=qf _ _ (Sha.cM 7 P5) (Sha.cM 18 P5);have v4:=qf _ _ (Nat.xor_lt_two_pow (n:=32) (Sha.cM 7 P5) (Sha.cM 18 P5)) (Nat.lt_of_le_of_lt (Nat.div_le_self x (2 ^ 3)) P5);have u1 : (Sha.nv y 17 ^^^ Sha.nv y 19) ^^^ (y / 2 ^ 10) = Sha.D3 y 17 19 10:=rfl;have u2 : (Sha.nv x 7 ^^^ Sha.nv x 18) ^^^ (x / 2 ^ 3) = Sha.D3 x 7 18 3:=rfl;rw [u1] at v2;rw [u2] at v4;simp only [Nat.reducePow] at y10 x3 v2 v4;refine eS T.mixed [(ow,R)] [] [4,9] [] (by kernel_rfl) (by simp only [aS,bh,and_true]; simp [AS.set,aG,jw]) ?_;intro K hK;simp only [↓bX,↓bG,eR,eP,bn,bu,aS,bh,List.any_cons,List.any_nil,List.contains_cons,List.contains_nil,Nat.reduceBEq,Bool.or_false,Bool.or_true,Bool.or_self,Bool.false_or,↓DN,Qa,Qb,Qc,Qd,Qe,Qf,Qg,Qh,reduceCtorEq,↓reduceIte,Na,Nb,Nc,Nk,Nf,Ng,Nh,Za,Zb,Zc,TT,hq.h7,g10,w2,w15,n2,n15,m2,Rp,d2,d15,jw];refine hK _ _ ?_;clear hK K;refine fB T.mixed [(ow,R)] [3,5,17,19] [14,29] [32] (by kernel_rfl) (by simp only [aS,bh,and_true]; simp [AS.set,aG,jw]) ?_;intro K hK;simp only [↓bX,↓bG,eR,eP,bn,bu,aS,bh,List.any_cons,List.any_nil,List.contains_cons,List.contains_nil,Nat.reduceBEq,Bool.or_false,Bool.or_true,Bool.or_self,Bool.false_or,↓DN,Qa,Qb,Qc,Qd,Qe,Qf,Qg,Qh,reduceCtorEq,↓reduceIte,Na,Nb,Nc,Nk,Nf,Ng,Nh,Za,Zb,Zc,TT,hq.h7,g10,w7,Zv,n7,n16,m7,P3,d7,d16,jw];refine ae (eC y 17 l2 (by omega) (by omega) _) ?_;rintro r sa ⟨rfl,rfl⟩;simp only [↓cR,↓ct,cw,↓bX,↓bG,eR,eP,bn,bu,aS,bh,List.any_cons,List.any_nil,DX,Nat.reduceBEq,↓DN,Qa,Qb,Qc,Qd,Qe,Qf,Qg,Qh,reduceCtorEq,↓reduceIte,Na,Nb,Nc,Nk,Nf,Ng,Nh,Za,Zb,Zc,TT,hq.h7,g10,w7,Zv,n7,n16,m7,P3,d7,d16,jw];refine ae (eC y 19 l2 (by omega) (by omega) _) ?_;rintro r sb ⟨rfl,rfl⟩;simp only [↓cR,↓ct,cw,↓bX,↓bG,eR,eP,bn,bu,aS,bh,List.any_cons,List.any_nil,DX,Nat.reduceBEq,↓DN,Qa,Qb,Qc,Qd,Qe,Qf,Qg,Qh,reduceCtorEq,↓reduceIte,Na,Nb,Nc,Nk,Nf,Ng,Nh,Za,Zb,Zc,TT,hq.h7,g10,w7,Zv,n7,n16,m7,P3,d7,d16,jw,y10,v1,v2,wI];refine ae (eC x 7 P5 (by omega) (by omega) _) ?_;rintro r sc ⟨rfl,rfl⟩;simp only [↓cR,↓ct,cw,↓bX,↓bG,eR,eP,bn,bu,aS,bh,List.any_cons,List.any_nil,DX,Nat.reduceBEq,↓DN,Qa,Qb,Qc,Qd,Qe,Qf,Qg,Qh,reduceCtorEq,↓reduceIte,Na,Nb,Nc,Nk,Nf,Ng,Nh,Za,Zb,Zc,TT,hq.h7,g10,w7,Zv,n7,n16,m7,P3,d7,d16,jw,y10,v1,v2,wI];refine ae (eC x 18 P5 (by omega) (by omega) _) ?_;rintro r sd ⟨rfl,rfl⟩;simp only [↓cR,↓ct,cw,↓bX,↓bG,eR,eP,bn,bu,aS,bh,List.any_cons,List.any_nil,DX,Nat.reduceBEq,↓DN,Qa,Qb,Qc,Qd,Qe,Qf,Qg,Qh,reduceCtorEq,↓reduceIte,Na,Nb,Nc,Nk,Nf,Ng,Nh,Za,Zb,Zc,TT,hq.h7,g10,w7,Zv,n7,n16,m7,P3,d7,d16,jw,x3,v3,v4,wI,iO,Nt,ff,hlen];refine ⟨by omega,hK _ _ ?_⟩;clear hK;simp only [av,aq,if_true,if_false];refine oE _ _ ?_;clear oE K6;refine jD (Ai @g10 (kg t (by omega))) ?_;refine ⟨⟨t + 1,by omega,by omega,(by repeat (first | exact hk | exact hq | refine Kp.aG ?_ (by decide) | refine Kq.aG ?_ (by decide))),(by repeat (first | exact hk | exact hq | refine Kp.aG ?_ (by decide) | refine Kq.aG ?_ (by decide))),rfl,AS.aj _ _ _,by rw [AS.aR _ hwh.symm]; exact jh,AS.bg oP TG _⟩,?_⟩;simp only [g10,aG,↓reduceIte];omega
      ·have cN : ¬ (t : Int) < 64:=(by omega);obtain rfl : t = 64:=(by omega);refine jB (Ai @g10 (decide_eq_false cN)) ?_;refine jF ?_;refine aB ?_;simp only [av,aq,if_true];clear js K5;refine fS _ _ ?_;clear fS K4;have hk : Kp oh m pl (.own tk e) i (aG (aG E5 71 (AV.v (.int .i64 ((64 : Nat) : Int)))) 72 (AV.v (.bool false))):=(by repeat (first | exact hk | exact hq | refine Kp.aG ?_ (by decide) | refine Kq.aG ?_ (by decide)));have hq : Kq ow (aG (aG E5 71 (AV.v (.int .i64 ((64 : Nat) : Int)))) 72 (AV.v (.bool false))):=(by repeat (first | exact hk | exact hq | refine Kp.aG ?_ (by decide) | refine Kq.aG ?_ (by decide)));generalize (aG (aG E5 71 (AV.v (.int .i64 ((64 : Nat) : Int)))) 72 (AV.v (.bool false))) = E6 at *
       clear g10;rw [F8] at jw;obtain ⟨W,hW⟩ : ∃ W,W = Sha.m6 c 64:=⟨_,rfl⟩;have Pc : W.length = 64:=(by rw [hW,Sha.da]);have P6 : Sha.mix st c = st.add (Sha.rounds W st 64):=(by rw [hW]; rfl);rw [← hW] at jw;have xhB : (gR st).length = 8:=rfl;have xhC : List.take 8 (gR st) = gR st:=rfl;have xfO:=Jo st;refine jS (Ai @hk.h3 @jh) fun K hK=>?_;intro tt TH;refine hK _ _ ?_;clear hK;have Zw : s.own tt = none:=by
        cases hs : s.own tt with
        | none=>rfl
        | some g=>rw [oP.own _ _ hs] at TH; cases TH
       have od : s.le (s4.cd tt 0):=AS.bC oP Zw _;have jw5 : (s4.cd tt 0).aJ ow = some (W.map wV):=jw;have jh5 : (s4.cd tt 0).aJ oh = some (gR st):=jh;generalize s4.cd tt 0 = s5 at *
       refine wK fun K4 fS=>?_;refine jA ?_;refine ag ?_;refine aH (fun E s3=>∃ t : Nat,t≤64∧Kp oh m pl (.own tk e) i E∧Kq ow E∧(∃ sp',Kr (gR (Sha.rounds W st t)) sp' E)∧E 14 = .v (.int .i64 t)∧s3.aJ ow = some (W.map wV)∧s3.aJ oh = some (gR st)∧s.le s3)
        (fun E _=>match E 14 with | .v (.int _ x)=>64 - x.toNat | _=>0) ?_ ?_
       ·exact ⟨0,by omega,(by repeat (first | exact hk | exact hq | refine Kp.aG ?_ (by decide) | refine Kq.aG ?_ (by decide))),(by repeat (first | exact hk | exact hq | refine Kp.aG ?_ (by decide) | refine Kq.aG ?_ (by decide))),⟨.own tt 0,by refine Kr.aG ?_ (by decide); exact ⟨rfl⟩⟩,rfl,jw5,jh5,od⟩
       ·rintro E7 s6 ⟨t,ht,hk,hq,⟨sp',hv⟩,g14,jw,jh,gX⟩ -
        refine wK fun K5 js=>?_;have ly:=Sha.wH (w:=W) il t;have xcK : Sha.rounds W st (t + 1) = (Sha.rounds W st t).step (Sha.K.getD t 0) (W.getD t 0):=rfl;generalize hu : Sha.rounds W st t = u at *
        by_cases lq : t < 64
        ·have cN : (t : Int) < 64:=(by omega);refine jB (Ai @g14 (decide_eq_true cN)) ?_;refine jE ?_;refine ad ?_;refine js _ _ ?_;clear js K5;refine wK fun K6 oE=>?_;refine ag ?_;have iO : (0 : Int)≤(t : Int):=(by omega);have Nt : (t : Int) < ((64 : Nat) : Int):=(by omega);have Pz:=Zs W t (by omega);have Jp:=Zs Sha.K t (by rw [show Sha.K.length = 64 from rfl]; omega);generalize W.getD t 0 = wi at *
         generalize Sha.K.getD t 0 = ki at *
         obtain ⟨KL,hKL⟩ : ∃ KL,KL = Sha.K.map wV:=⟨_,rfl⟩;obtain ⟨WL,hWL⟩ : ∃ WL,WL = W.map wV:=⟨_,rfl⟩;have g4:=hk.h4;rw [← hKL] at Jp g4;rw [← hWL] at Pz jw;have xcL : List.take 1 (List.drop t KL) = [wV ki]:=(by rw [Jp]; rfl);have g13:=hv.Je;have Ii : ∀ {a b : Nat},a < 4294967296→b < 4294967296→a &&& b < 4294967296:=fun {a b} ha hb=>Nat.lt_of_le_of_lt Nat.and_le_left ha;have Zl : ∀ {a b : Nat},a < 4294967296→b < 4294967296→a ^^^ b < 4294967296:=fun {a b} ha hb=>Nat.xor_lt_two_pow (n:=32) ha hb;have hn : 4294967295 - u.e < 4294967296:=(by omega);have z1:=qf _ _ (Sha.cM 6 ly.e) (Sha.cM 11 ly.e);have z2:=qf _ _ (Zl (Sha.cM 6 ly.e) (Sha.cM 11 ly.e)) (Sha.cM 25 ly.e);have z3 : (Sha.nv u.e 6 ^^^ Sha.nv u.e 11) ^^^ Sha.nv u.e 25 = Sha.M4 u.e 6 11 25:=rfl;rw [z3] at z2;have z4:=qf _ _ (Sha.cM 2 ly.a) (Sha.cM 13 ly.a);have z5:=qf _ _ (Zl (Sha.cM 2 ly.a) (Sha.cM 13 ly.a)) (Sha.cM 22 ly.a);have z6 : (Sha.nv u.a 2 ^^^ Sha.nv u.a 13) ^^^ Sha.nv u.a 22 = Sha.M4 u.a 2 13 22:=rfl;rw [z6] at z5;refine eS T.mixed [(ow,WL)] [6,10,15] [43] [] (by kernel_rfl) (by simp only [aS,bh,and_true]; simp [AS.set,aG,jw]) ?_;intro K hK;simp only [↓bX,↓bG,eR,eP,bn,bu,aS,bh,List.any_cons,List.any_nil,List.contains_cons,List.contains_nil,Nat.reduceBEq,Bool.or_false,Bool.or_true,Bool.or_self,Bool.false_or,↓DN,Qa,Qb,Qc,Qd,Qe,Qf,Qg,Qh,reduceCtorEq,↓reduceIte,Na,Nb,Nc,Nk,Nf,Ng,Nh,Za,Zb,Zc,TT,g13,c8,hq.h7,g14,g4,jw];refine ae (eC u.e 6 ly.e (by omega) (by omega) _) ?_;rintro r sa ⟨rfl,rfl⟩;simp only [↓cR,↓ct,cw,↓bX,↓bG,eR,eP,bn,bu,aS,bh,List.any_cons,List.any_nil,DX,Nat.reduceBEq,↓DN,Qa,Qb,Qc,Qd,Qe,Qf,Qg,Qh,reduceCtorEq,↓reduceIte,Na,Nb,Nc,Nk,Nf,Ng,Nh,Za,Zb,Zc,TT,g13,c8,hq.h7,g14,g4,jw];refine ae (eC u.e 11 ly.e (by omega) (by omega) _) ?_;rintro r sb ⟨rfl,rfl⟩;simp only [↓cR,↓ct,cw,↓bX,↓bG,eR,eP,bn,bu,aS,bh,List.any_cons,List.any_nil,DX,Nat.reduceBEq,↓DN,Qa,Qb,Qc,Qd,Qe,Qf,Qg,Qh,reduceCtorEq,↓reduceIte,Na,Nb,Nc,Nk,Nf,Ng,Nh,Za,Zb,Zc,TT,g13,c8,hq.h7,g14,g4,jw,z1];refine ae (eC u.e 25 ly.e (by omega) (by omega) _) ?_;rintro r sc ⟨rfl,rfl⟩;simp only [↓cR,↓ct,cw,↓bX,↓bG,eR,eP,bn,bu,aS,bh,List.any_cons,List.any_nil,DX,Nat.reduceBEq,↓DN,Qa,Qb,Qc,Qd,Qe,Qf,Qg,Qh,reduceCtorEq,↓reduceIte,Na,Nb,Nc,Nk,Nf,Ng,Nh,Za,Zb,Zc,TT,g13,c8,hq.h7,g14,g4,jw,z1,z2,xcL,Pz,iO,Nt,wI,BH u.e u.f ly.e ly.f,Zf u.e ly.e,BH (4294967295 - u.e) u.g hn ly.g,qf (u.e &&& u.f) ((4294967295 - u.e) &&& u.g) (Ii ly.e ly.f) (Ii hn ly.g)];refine hK _ _ ?_;clear hK K;refine aZ T.mixed [3,7,12] (by kernel_rfl) ?_;intro K hK;refine jN (Ai @g13 @c8) ?_;refine ae (eC u.a 2 ly.a (by omega) (by omega) _) ?_;rintro r sa ⟨rfl,rfl⟩;refine jN (Ai @g13 @c8) ?_;refine ae (eC u.a 13 ly.a (by omega) (by omega) _) ?_;rintro r sb ⟨rfl,rfl⟩;refine jN (Ai @g13 (Ai @c8 @z4)) ?_;refine ae (eC u.a 22 ly.a (by omega) (by omega) _) ?_;rintro r sc ⟨rfl,rfl⟩;refine jV (Ai @g13 (Ai @c8 (Ai @z4 (Ai @z5 (Ai @wI (Ai (BH u.a u.b ly.a ly.b) (Ai (BH u.a u.c ly.a ly.c) (Ai (BH u.b u.c ly.b ly.c) (Ai (qf (u.a &&& u.b) (u.a &&& u.c) (Ii ly.a ly.b) (Ii ly.a ly.c)) (qf ((u.a &&& u.b) ^^^ (u.a &&& u.c)) (u.b &&& u.c) (Zl (Ii ly.a ly.b) (Ii ly.a ly.c)) (Ii ly.b ly.c))))))))))) hK ?_;clear hK K;refine fy T.mixed [] (by kernel_rfl) ?_;intro K hK;refine jV (Ai @g13 (Ai @c8 (Ai @wI @xcG))) hK ?_;clear hK K;simp only [av,aq,if_true,if_false];refine oE _ _ ?_;clear oE K6;refine jD (Ai @g14 (kg t (by omega))) ?_;refine ⟨⟨t + 1,by omega,(by repeat (first | exact hk | exact hq | refine Kp.aG ?_ (by decide) | refine Kq.aG ?_ (by decide))),(by repeat (first | exact hk | exact hq | refine Kp.aG ?_ (by decide) | refine Kq.aG ?_ (by decide))),⟨.new,?_⟩,rfl,by rw [jw,hWL],jh,gX⟩,?_⟩
         ·repeat (first | refine Kr.aG ?_ (by decide))
          refine ⟨?_⟩;simp only [aG,↓reduceIte];rw [xcK];rfl
         ·simp only [g14,aG,↓reduceIte];omega
        ·have cN : ¬ (t : Int) < 64:=(by omega);obtain rfl : t = 64:=(by omega);refine jB (Ai @g14 (decide_eq_false cN)) ?_;refine jF ?_;refine aB ?_;simp only [av,aq,if_true];clear js K5;refine fS _ _ ?_;clear fS K4;have hk : Kp oh m pl (.own tk e) i (aG (aG E7 120 (AV.v (.int .i64 ((64 : Nat) : Int)))) 121 (AV.v (.bool false))):=(by repeat (first | exact hk | exact hq | refine Kp.aG ?_ (by decide) | refine Kq.aG ?_ (by decide)));have hv : Kr (gR u) sp' (aG (aG E7 120 (AV.v (.int .i64 ((64 : Nat) : Int)))) 121 (AV.v (.bool false))):=(by repeat (first | exact hk | exact hq | exact hv | refine Kp.aG ?_ (by decide) | refine Kq.aG ?_ (by decide) | refine Kr.aG ?_ (by decide)));generalize (aG (aG E7 120 (AV.v (.int .i64 ((64 : Nat) : Int)))) 121 (AV.v (.bool false))) = E8 at *
         clear g14;rw [hu] at P6;rw [← CI st u] at jh;refine jA ?_;refine ag ?_;refine aH (fun E s3=>∃ t : Nat,t≤8∧Kp oh m pl (.own tk e) i E∧Kr (gR u) sp' E∧E 17 = .v (.int .i64 t)∧s3.aJ oh = some (Aq st u t)∧s.le s3)
          (fun E _=>match E 17 with | .v (.int _ x)=>8 - x.toNat | _=>0) ?_ ?_
         ·exact ⟨0,by omega,(by repeat (first | exact hk | exact hq | refine Kp.aG ?_ (by decide) | refine Kq.aG ?_ (by decide))),(by repeat (first | exact hk | exact hq | exact hv | refine Kp.aG ?_ (by decide) | refine Kq.aG ?_ (by decide) | refine Kr.aG ?_ (by decide))),rfl,jh,gX⟩
         ·rintro E9 s7 ⟨t,ht,hk,hv,g17,jh,nn⟩ -
          refine wK fun K5 js=>?_;by_cases lq : t < 8
          ·have cN : (t : Int) < 8:=(by omega);refine jB (Ai @g17 (decide_eq_true cN)) ?_;refine jE ?_;refine ad ?_;refine js _ _ ?_;clear js K5;refine wK fun K6 oE=>?_;refine ag ?_;have iO : (0 : Int)≤(t : Int):=(by omega);have d2:=CK st u t lq;have d5:=Ar u t lq;have ff:=Gc st u t lq;have hlen:=Gb st u t ht;generalize st.list.getD t 0 = x at *
           generalize u.list.getD t 0 = y at *
           have g13:=hv.Je;obtain ⟨X,hX⟩ : ∃ X,X = Aq st u t:=⟨_,rfl⟩;rw [← hX] at d2 ff hlen jh;obtain ⟨Y,hY⟩ : ∃ Y,Y = gR u:=⟨_,rfl⟩;rw [← hY] at d5 g13;have d51 : List.take 1 (List.drop t Y) = [wV y]:=(by rw [d5]; rfl);refine fB T.mixed [(oh,X)] [] [5] [12] (by kernel_rfl) (by simp only [aS,bh,and_true]; simp [AS.set,aG,jh]) ?_;intro K hK;simp only [↓bX,↓bG,eR,eP,bn,bu,aS,bh,List.any_cons,List.any_nil,List.contains_cons,List.contains_nil,Nat.reduceBEq,Bool.or_false,Bool.or_true,Bool.or_self,Bool.false_or,↓DN,Qa,Qb,Qc,Qd,Qe,Qf,Qg,Qh,reduceCtorEq,↓reduceIte,Na,Nb,Nc,Nk,Nf,Ng,Nh,Za,Zb,Zc,TT,hk.h3,g17,g13,c8,iO,cN,d2,d51,jh,wI,ff,hlen];refine ⟨by omega,hK _ _ ?_⟩;clear hK;simp only [av,aq,if_true,if_false];refine oE _ _ ?_;clear oE K6;refine jD (Ai @g17 (kg t (by omega))) ?_;refine ⟨⟨t + 1,by omega,(by repeat (first | exact hk | exact hq | refine Kp.aG ?_ (by decide) | refine Kq.aG ?_ (by decide))),(by repeat (first | exact hk | exact hq | exact hv | refine Kp.aG ?_ (by decide) | refine Kq.aG ?_ (by decide) | refine Kr.aG ?_ (by decide))),rfl,AS.aj _ _ _,AS.bg nn hoh _⟩,?_⟩;simp only [g17,aG,↓reduceIte];omega
          ·have cN : ¬ (t : Int) < 8:=(by omega);obtain rfl : t = 8:=(by omega);refine jB (Ai @g17 (decide_eq_false cN)) ?_;refine jF ?_;refine aB ?_;simp only [av,aq,if_true,if_false];refine bB _ _ ?_;clear bB js K3 K5;have h6:=hk.h6;have Ea : jn .i64 ((64 * i : Nat) : Int) 64 = ((64 * (i + 1) : Nat) : Int):=nQ (64 * i) 64 (by omega);refine jD (Ai @h6 @Ea) ?_;rw [CJ,← P6,← tS] at jh;refine ⟨⟨i + 1,aO,⟨by simp only [aG,hk.h3,Nc,↓reduceIte],by simp only [aG,hk.h4,Nc,↓reduceIte],by simp only [aG,hk.h5,Nc,↓reduceIte],rfl⟩,jh,nn⟩,?_⟩;simp only [aG,↓reduceIte,Int.toNat_natCast,hmu];omega
  ·have cN : ¬ ((64 * i : Nat) : Int) < ((64 * m : Nat) : Int):=(by omega);obtain rfl : i = m:=(by omega);refine jB (Ai @e6 (Ai @hk.h5 (decide_eq_false cN))) ?_;refine jF ?_;refine aB ?_;simp only [av,aq,if_true];clear aX K2;refine hK _ _ ?_;clear hK K;have h3:=hk.h3;generalize Sha.hash pl i = u at *
   refine jA ?_;refine wK fun K hK=>?_;refine jA ?_;refine ag ?_;refine aH (fun E s3=>∃ t : Nat,t≤8∧E 3 = .dj oh 0 1 8 8∧E 19 = .v (.int .i64 t)∧s3.aJ oh = some (gR u)∧kW s2 (KB u t) (E 18) s3)
    (fun E _=>match E 19 with | .v (.int _ x)=>8 - x.toNat | _=>0) ?_ ?_
   ·exact ⟨0,by omega,h3,rfl,ho,AS.le.refl s2,.inl ⟨rfl,rfl⟩⟩
   ·rintro E3 s3 ⟨t,ht,g3,g19,jh,Av⟩ -
    refine wK fun K5 js=>?_;by_cases lq : t < 8
    ·have cN : (t : Int) < 8:=(by omega);have iO : (0 : Int)≤(t : Int):=(by omega);refine jB (Ai @g19 (decide_eq_true cN)) ?_;refine jE ?_;refine ad ?_;refine js _ _ ?_;clear js K5;refine wK fun K6 oE=>?_;refine ag ?_;have d5:=Ar u t lq;have vm:=CN u t lq;have Te:=Gi u t ht;generalize u.list.getD t 0 = x at *
     have Zq : lW .u32 (x : Int) 24 = ((x / 2 ^ 24 : Nat) : Int):=BI x 24 (by decide);have P4 : lW .u32 (x : Int) 16 = ((x / 2 ^ 16 : Nat) : Int):=BI x 16 (by decide);have s8 : lW .u32 (x : Int) 8 = ((x / 2 ^ 8 : Nat) : Int):=BI x 8 (by decide);generalize tR : E3 18 = r6 at Av;obtain ⟨X,hX⟩ : ∃ X,X = gR u:=⟨_,rfl⟩;rw [← hX] at d5 jh;refine fB T.mixed [(oh,X)] [25] [4,10,16,22] [] (by kernel_rfl) (by simp only [aS,bh,and_true]; simp [AS.set,aG,jh]) ?_;intro K hK;simp only [↓bX,↓bG,eR,eP,bn,bu,aS,bh,List.any_cons,List.any_nil,List.contains_cons,List.contains_nil,Nat.reduceBEq,Bool.or_false,Bool.or_true,Bool.or_self,Bool.false_or,↓DN,Qa,Qb,Qc,Qd,Qe,Qf,Qg,Qh,reduceCtorEq,↓reduceIte,Na,Nb,Nc,Nk,Nf,Ng,Nh,Za,Zb,Zc,TT,g3,g19,c8,iO,cN,d5,jh,Zq,P4,s8,Zm,tR];refine eT (ds:=Sha.be x) Av rfl (by simp only [Sha.be,List.map_cons,List.map_nil,yD]) T.c5 T.b5 (by rw [Te]; simp only [Sha.be,List.length_cons,List.length_nil]; omega) ?_;intro r2 s6 h6;rw [vm] at h6;refine ⟨by rw [hX]; exact h6.1.aJ _ _ ho,hK _ _ ?_⟩;clear hK;simp only [av,aq,if_true,if_false];refine oE _ _ ?_;clear oE K6;refine jD (Ai @g19 (kg t (by omega))) ?_;refine ⟨⟨t + 1,by omega,g3,rfl,h6.1.aJ _ _ ho,by simpa only [aG,Nc,↓reduceIte] using h6⟩,?_⟩;simp only [g19,aG,↓reduceIte];omega
    ·have cN : ¬ (t : Int) < 8:=(by omega);obtain rfl : t = 8:=(by omega);refine jB (Ai @g19 (decide_eq_false cN)) ?_;refine jF ?_;refine aB ?_;simp only [av,aq,if_true];clear js K5;refine hK _ _ ?_;clear hK K;rw [CO,J5] at Av;obtain ⟨tz,ez,UL⟩:=gO Av (by rw [← List.length_pos_iff,Sha.dq]; decide);refine jB @UL ?_;refine jI ?_;exact ⟨_,s,AV.aL.refl _,AS.le.trans hle Av.1,rfl,rfl⟩
theorem OZ : ai prog 233 = true:=by kernel_rfl
theorem O0 : ai prog 236 = true:=by kernel_rfl
theorem O1 : ai prog 207 = true:=by kernel_rfl
theorem gU (k : Nat) (n : Int) (st : List UInt8 × Bool) : (bU k n st).1.length≤st.1.length + k:=by
 unfold bU gj;split
 ·split
  ·omega
  ·simp
 ·simp only; omega
theorem BJ (number : Int) (hn : -9223372036854775808≤number∧number≤9223372036854775807) (N : aa) (hl : N.fF.length≤2 ^ 61) (s0 s : AS) (p : Nat) (st : List UInt8 × Bool) (il : st.1.length≤100) (h : fu s0 s p st) :
  ah prog Γ 233 [.ptr p 0,.cX [.v (.int .i64 number)],.cX N.cells] s (fun r s'=>r = .dZ []∧fu s0 s' p (et N (bU 4 number st))):=by
 refine ab func233 rfl ntmps233 results233 (by simp) ?_;have hw:=pZ (Γ:=Γ) N hl;unfold aa.cells at *
 refine jQ fun K hK=>?_;refine ae (DQ s0 s p st number hn (by omega) h) ?_;rintro r s1 ⟨rfl,h1⟩;refine jR hK ?_;clear hK K;have hl4:=gU 4 number st;refine jU @aC.eq_1 fun K hK=>?_;refine ae (hw s0 s1 p _ (by omega) h1) ?_;rintro r s2 ⟨rfl,h2⟩;refine jR hK ?_;clear hK K;simp only [cF,bI,bM,dh,List.toList_toArray,↓bj]; try simp only [UP,DF,Nc,↓reduceIte,DT]
 exact jW ⟨rfl,h2⟩
theorem yk (N : aa) (hl : N.fF.length≤2 ^ 61) (s0 s : AS) (p : Nat) (st : List UInt8 × Bool) (il : st.1.length≤100) (h : fu s0 s p st) :
  ah prog Γ 236 [.ptr p 0,.cX N.cells] s (fun r s'=>r = .dZ []∧fu s0 s' p (et N st)):=by
 refine ab func236 rfl ntmps236 results236 (by simp) ?_;have hw:=pZ (Γ:=Γ) N hl;unfold aa.cells at *
 refine jU @aC.eq_1 fun K hK=>?_;refine ae (hw s0 s p _ (by omega) h) ?_;rintro r s2 ⟨rfl,h2⟩;refine jR hK ?_;clear hK K;simp only [cF,bI,bM,dh,List.toList_toArray,↓bj]; try simp only [UP,DF,Nc,↓reduceIte,DT]
 exact jW ⟨rfl,h2⟩
theorem yl (N : aa) (hk : N.key < 2 ^ 64) (hp : N.parent.length≤100) (s0 s : AS) (p : Nat) (st : List UInt8 × Bool) (il : st.1.length≤100) (h : fu s0 s p st) :
  ah prog Γ 207 [.ptr p 0,.cX N.cells] s (fun r s'=>r = .dZ []∧fu s0 s' p (fD 1 N.parent (gj 8 N.key st))):=by
 refine ab func207 rfl ntmps207 results207 (by simp) ?_;have Of : (gj 8 N.key st).1.length≤st.1.length + 8:=(by unfold gj; split; omega; simp);obtain ⟨k,m,y,pa,u⟩:=N;simp only at hk hp Of;unfold aa.cells at *
 refine jQ fun K hK=>?_;refine ae (dO s0 s p st y hk (by omega) h) ?_;rintro r s1 ⟨rfl,h1⟩;refine jR hK ?_;clear hK K;refine jU @aC.eq_1 fun K hK=>?_;refine ae (eJ s0 s1 p _ (ak pa .any) pa (.inr ⟨_,rfl⟩) (by omega) h1) ?_;rintro r s2 ⟨rfl,h2⟩;refine jR hK ?_;clear hK K;simp only [cF,bI,bM,dh,List.toList_toArray,↓bj]; try simp only [UP,DF,Nc,↓reduceIte,DT]
 exact jW ⟨rfl,h2⟩
theorem mT (mark : Nat) (hm : mark < 256) (k : FuncId) (dm : List AV) (hk : ai prog k = true) (F : List UInt8 × Bool)
  (hF : ∀ s0 s p,fu s0 s p ([UInt8.ofNat mark],false)→ah prog Γ k (.ptr p 0 :: dm) s (fun r s'=>r = .dZ []∧fu s0 s' p F)) (hl : F.1.length≤2 ^ 45) (s : AS) :
  ah prog Γ 206 [.v (.int .i64 (mark : Int)),.tN k dm] s (fun r s'=>r = .dZ [ak (if F.2 = true then [] else F.1) .any,.v (.bool !F.2)]∧s' = s):=by
 refine ab func206 rfl ntmps206 results206 (by simp) ?_;have h0 : bU 1 (mark : Int) ([],false) = ([UInt8.ofNat mark],false):=by
  unfold bU;rw [if_pos ⟨by omega,by omega⟩];simp [gj,be]
 refine jA ?_;refine jQ fun K hK=>?_;refine ae (CC s) ?_;rintro r s1 ⟨p,rfl,q1⟩;refine jR hK ?_;clear hK K;refine jQ fun K hK=>?_;refine ae (cD s s1 p ([],false) (mark : Int) (by omega) (by simp) q1) ?_;rintro r s2 ⟨rfl,q2⟩;rw [h0] at q2;refine jR hK ?_;clear hK K;refine jS @hk fun K hK=>?_;refine ae (hF s s2 p q2) ?_;rintro r s3 ⟨rfl,q3⟩;refine jR hK ?_;clear hK K;refine jK (mI s s3 p _ hl q3) ?_;rintro s4 rfl;refine jI ?_;exact ⟨_,s,AV.aL.refl _,q3.le,rfl,rfl⟩
def mU (number : Int) (N : aa) : List UInt8:=1 :: (be 4 number.toNat ++ N.text)
def kx (N : aa) (l r : List UInt8) : List UInt8:=2 :: (N.text ++ (l ++ r))
def lK (N : aa) (b : List UInt8) : List UInt8:=3 :: (be 8 N.key ++ ((be 1 N.parent.length ++ N.parent) ++ b))
def vn (number : Int) (N : aa) : List UInt8:=if N.right∧0≤number∧number < 32 then Sha.sum (mU number N) else []
def lO (N : aa) (l r : List UInt8) : List UInt8:=if N.right then Sha.sum (kx N l r) else []
def rH (N : aa) (b : List UInt8) : List UInt8:=if N.right∧N.kind = 2 then Sha.sum (lK N b) else []
theorem BK (number : Int) (N : aa) (hr : N.right) (h0 : 0≤number) (h1 : number < 4294967296) : et N (bU 4 number ([1],false)) = (mU number N,false):=by
 unfold et bU;rw [if_pos hr,if_pos ⟨h0,by omega⟩];simp [gj,cy,mU]
theorem Ec (number : Int) (N : aa) (h : ¬ (N.right∧0≤number∧number < 4294967296)) : (et N (bU 4 number ([1],false))).2 = true:=by
 unfold et;by_cases hr : N.right
 ·rw [if_pos hr];have : ¬ (0≤number∧number < 2 ^ (8 * 4)):=fun e=>h ⟨hr,e.1,by have:=e.2; omega⟩;unfold bU;rw [if_neg this];rfl
 ·rw [if_neg hr]
theorem xH (N : aa) (st : List UInt8 × Bool) : (et N st).1.length≤st.1.length + 100:=by
 unfold et;split
 ·rename_i hr;have:=aa.dQ hr;have:=cj N.text st;omega
 ·simp only; omega
theorem Aw (n9 : Γ 0 = gR Sha.H0) (hG : Γ 1 = Sha.K.map wV) (number : Int) (hn : -9223372036854775808≤number∧number≤9223372036854775807) (N : aa) (hl : N.fF.length≤2 ^ 61) (s : AS) :
  ah prog Γ 220 [.v (.int .i64 number),.agg N.cells] s (fun r s'=>r = ak (vn number N) .any∧s' = s):=by
 refine ab func220 rfl ntmps220 results220 (by simp) ?_;have fM:=fun s0 s p hp=>BJ (Γ:=Γ) number hn N hl s0 s p ([1],false) (by decide) hp;have hlen : (et N (bU 4 number ([1],false))).1.length≤2 ^ 45:=by
  have h1:=xH N (bU 4 number ([1],false));have h2:=gU 4 number ([1],false);simp only [List.length_cons,List.length_nil] at h2;omega
 have RC:=fun s=>mT (Γ:=Γ) 1 (by decide) _ _ OZ _ fM hlen s;have fX:=BK number N;have dV:=Ec number N;have hD : vn number N = if N.right∧0≤number∧number < 32 then Sha.sum (mU number N) else []:=rfl
 have hBl : N.right→(mU number N).length≤105:=(fun hr=>by have:=aa.dQ hr; simp [mU]; omega);clear fM;generalize et N (bU 4 number ([1],false)) = F at *
 generalize vn number N = D at *
 generalize mU number N = B at *
 unfold aa.cells at *
 refine bY 2 3 (by decide) (by decide) (by decide) ?_;intro K hK;refine jN @aC.eq_1 ?_;intro o1 h1 o2 h2;refine hK _ _ o1 o2 _ _ rfl rfl h1 (by rw [AS.cQ]; exact h2) ?_;clear hK K h1 h2;refine jS @aC.eq_1 fun K hK=>?_;refine ae (RC _) ?_;rintro r s1 ⟨rfl,rfl⟩;by_cases hg : N.right∧0≤number∧number < 4294967296
 ·have hF:=fX hg.1 hg.2.1 hg.2.2;rw [hF];refine jR hK ?_;clear hK K;refine wK fun K hK=>?_;by_cases nh : number < 32
  ·refine jB (decide_eq_false (show ¬ (32 : Int)≤number by omega)) ?_;refine jF ?_;refine ad ?_;refine hK _ _ ?_;clear hK K;have RE : D = Sha.sum B:=(by rw [hD,if_pos ⟨hg.1,hg.2.1,nh⟩]);have Nu:=hBl hg.1;have pz:=rP (Γ:=Γ) n9 hG [B] .new (by simp) (by simp; omega) s1;rw [show [B].flatten = B from by simp,← RE] at pz;refine wS fun K hK=>?_;simp only [↓DN,Qa,Qb,Qc,Qd,Qe,Qf,Qg,Qh,reduceCtorEq,↓reduceIte,Na,Nb,Nc,Nk,Nf,Ng,Nh,Za,Zb,Zc,TT,List.replicate_one];refine ae pz ?_;intro r s2 fQ;have Ql : D.length = 32:=(by rw [RE]; exact Sha.dq B);have hw:=fQ.aL;have hle:=fQ.1;obtain ⟨t,e,rfl⟩:=gO fQ (by rw [← List.length_pos_iff,Ql]; decide);refine jR hK ?_;clear hK K;refine jI ?_;exact ⟨_,s1,hw,hle,rfl,rfl⟩
  ·refine jB (decide_eq_true (show (32 : Int)≤number by omega)) ?_;refine jE ?_;refine jA ?_;refine jI ?_;refine ⟨ak [] .any,_,AV.aP,AS.le.refl _,?_,rfl⟩;rw [hD,if_neg (fun h=>nh h.2.2)];rfl
 ·have hF:=dV hg;rw [hF];refine jR hK ?_;clear hK K;refine wK fun K hK=>?_;refine jA ?_;refine jE ?_;refine jA ?_;refine jI ?_;refine ⟨ak [] .any,_,AV.aP,AS.le.refl _,?_,rfl⟩;rw [hD,if_neg (fun h=>hg ⟨h.1,h.2.1,by omega⟩)];rfl
theorem Il (a b c : List UInt8) : ji [a,b,c] = [ak a .any,ak b .any,ak c .any]:=rfl
theorem Im (a b : List UInt8) : ji [a,b] = [ak a .any,ak b .any]:=rfl
theorem wJ (n9 : Γ 0 = gR Sha.H0) (hG : Γ 1 = Sha.K.map wV) (N : aa) (hl : N.fF.length≤2 ^ 61) (x y : List UInt8) (hxy : x.length + y.length≤2 ^ 30) (s : AS) :
  ah prog Γ 221 [.agg N.cells,ak x .any,ak y .any] s (fun r s'=>r = ak (lO N x y) .any∧s' = s):=by
 refine ab func221 rfl ntmps221 results221 (by simp) ?_;have fM:=fun s0 s p hp=>yk (Γ:=Γ) N hl s0 s p ([2],false) (by decide) hp;have hlen : (et N ([2],false)).1.length≤2 ^ 45:=by
  have h1:=xH N ([2],false);simp only [List.length_cons,List.length_nil] at h1;omega
 have RC:=fun s=>mT (Γ:=Γ) 2 (by decide) _ _ O0 _ fM hlen s;have hD : lO N x y = if N.right then Sha.sum (kx N x y) else []:=rfl
 have hB : kx N x y = (2 :: N.text) ++ (x ++ y):=rfl;have hT:=fun hr=>aa.dQ (N:=N) hr;have fX : N.right→et N ([2],false) = (2 :: N.text,false):=(fun hr=>by unfold et; rw [if_pos hr]; rfl);have dV : ¬ N.right→(et N ([2],false)).2 = true:=(fun hr=>by unfold et; rw [if_neg hr]);clear fM;generalize et N ([2],false) = F at *
 generalize lO N x y = D at *
 generalize kx N x y = B at *
 have TI : N.right→(2 :: N.text).length≤101:=(fun hr=>by have:=hT hr; simp; omega);generalize (2 :: N.text) = pre at *
 unfold aa.cells at *
 refine az 3 (by simp [bP]) ?_;intro K hK;refine jN @aC.eq_1 ?_;intro o ho;refine hK _ _ o _ rfl ho ?_;clear hK K ho;refine jS @aC.eq_1 fun K hK=>?_;refine ae (RC _) ?_;rintro r s1 ⟨rfl,rfl⟩;by_cases hg : N.right
 ·rw [fX hg];refine jR hK ?_;clear hK K;refine wK fun K hK=>?_;refine jA ?_;refine jF ?_;refine ad ?_;refine hK _ _ ?_;clear hK K;have RE : D = Sha.sum B:=(by rw [hD,if_pos hg]);have xd:=TI hg;have pz:=rP (Γ:=Γ) n9 hG [pre,x,y] .new (by simp) (by simp; omega) s1;rw [show [pre,x,y].flatten = B from by rw [hB]; simp,← RE,Il] at pz;refine wS fun K hK=>?_;simp only [↓DN,Qa,Qb,Qc,Qd,Qe,Qf,Qg,Qh,reduceCtorEq,↓reduceIte,Na,Nb,Nc,Nk,Nf,Ng,Nh,Za,Zb,Zc,TT,List.replicate_succ,List.replicate_zero];refine ae pz ?_;intro r s2 fQ;have Ql : D.length = 32:=(by rw [RE]; exact Sha.dq B);have hw:=fQ.aL;have hle:=fQ.1;obtain ⟨t,e,rfl⟩:=gO fQ (by rw [← List.length_pos_iff,Ql]; decide);refine jR hK ?_;clear hK K;refine jI ?_;exact ⟨_,s1,hw,hle,rfl,rfl⟩
 ·rw [dV hg];refine jR hK ?_;clear hK K;refine wK fun K hK=>?_;refine jA ?_;refine jE ?_;refine jA ?_;refine jI ?_;refine ⟨ak [] .any,_,AV.aP,AS.le.refl _,?_,rfl⟩;rw [hD,if_neg hg];rfl
theorem wm (n9 : Γ 0 = gR Sha.H0) (hG : Γ 1 = Sha.K.map wV) (N : aa) (hl : N.fF.length≤2 ^ 61) (x : List UInt8) (hx : x.length≤2 ^ 30) (s : AS) :
  ah prog Γ 156 [.agg N.cells,ak x .any] s (fun r s'=>r = ak (rH N x) .any∧s' = s):=by
 refine ab func156 rfl ntmps156 results156 (by simp) ?_;have hD : rH N x = if N.right∧N.kind = 2 then Sha.sum (lK N x) else []:=rfl
 have hB : lK N x = (3 :: (be 8 N.key ++ (be 1 N.parent.length ++ N.parent))) ++ x:=(by simp [lK]);have tH:=fun s=>dY (Γ:=Γ) N hl s;have Nv : N.right→N.kind = 2→N.key < 2 ^ 64∧N.parent.length≤32:=by
  intro hr hk;have : N.held:=by
   unfold aa.right at hr;rw [hk] at hr;simp at hr;exact hr.2.1
  obtain ⟨_,h2,h3⟩:=this;exact ⟨by omega,by omega⟩
 have fM:=fun hk hp s0 s p hq=>yl (Γ:=Γ) N hk hp s0 s p ([3],false) (by decide) hq;have hF : N.right→N.kind = 2→fD 1 N.parent (gj 8 N.key ([3],false)) = (3 :: (be 8 N.key ++ (be 1 N.parent.length ++ N.parent)),false):=by
  intro hr hk;have:=(Nv hr hk).2;unfold fD bU;rw [if_pos ⟨by omega,by omega⟩];simp [gj,cy]
 generalize fD 1 N.parent (gj 8 N.key ([3],false)) = F at *
 have TI : N.right→N.kind = 2→(3 :: (be 8 N.key ++ (be 1 N.parent.length ++ N.parent))).length≤100:=(fun hr hk=>by have:=(Nv hr hk).2; simp; omega);generalize (3 :: (be 8 N.key ++ (be 1 N.parent.length ++ N.parent))) = pre at *
 generalize rH N x = D at *
 generalize lK N x = B at *
 unfold aa.cells at *
 obtain ⟨k,m,y,pa,u⟩:=N;simp only at *
 refine az 2 (by simp [bP]) ?_;intro K hK;refine jN @aC.eq_1 ?_;intro o ho;refine hK _ _ o _ rfl ho ?_;clear hK K ho;refine wK fun K hK=>?_;by_cases hk : k = 2
 ·refine jS (Ai @aC.eq_1 (cC hk)) fun K hK=>?_;refine ae (tH _) ?_;rintro r s1 ⟨rfl,rfl⟩;by_cases hg : aa.right ⟨k,m,y,pa,u⟩
  ·rw [decide_eq_true hg];refine jR hK ?_;clear hK K;refine jF ?_;refine ad ?_;refine hK _ _ ?_;clear hK K;obtain ⟨q1,q2⟩:=Nv hg hk;have hFF:=hF hg hk;have xd:=TI hg hk;have RC:=fun s=>mT (Γ:=Γ) 3 (by decide) _ _ O1 _ (fM q1 (by omega)) (by rw [hFF]; simp only; omega) s;rw [hFF] at RC;refine jS @aC.eq_1 fun K hK=>?_;refine ae (RC _) ?_;rintro r s2 ⟨rfl,rfl⟩;refine jR hK ?_;clear hK K;have RE : D = Sha.sum B:=(by rw [hD,if_pos ⟨hg,hk⟩]);have pz:=rP (Γ:=Γ) n9 hG [pre,x] .new (by simp) (by simp; omega) s2;rw [show [pre,x].flatten = B from by rw [hB]; simp,← RE,Im] at pz;refine wS fun K hK=>?_;simp only [↓DN,Qa,Qb,Qc,Qd,Qe,Qf,Qg,Qh,reduceCtorEq,↓reduceIte,Na,Nb,Nc,Nk,Nf,Ng,Nh,Za,Zb,Zc,TT,List.replicate_succ,List.replicate_zero];refine ae pz ?_;intro r s3 fQ;have Ql : D.length = 32:=(by rw [RE]; exact Sha.dq B);have hw:=fQ.aL;have hle:=fQ.1;obtain ⟨t,e,rfl⟩:=gO fQ (by rw [← List.length_pos_iff,Ql]; decide);refine jR hK ?_;clear hK K;refine jI ?_;exact ⟨_,s2,hw,hle,rfl,rfl⟩
  ·rw [decide_eq_false hg];refine jR hK ?_;clear hK K;refine jE ?_;refine jA ?_;refine jI ?_;refine ⟨ak [] .any,_,AV.aP,AS.le.refl _,?_,rfl⟩;rw [hD,if_neg (fun h=>hg h.1)];rfl
 ·refine jB (Ai @aC.eq_1 (bF hk)) ?_;refine jE ?_;refine jA ?_;refine jI ?_;refine ⟨ak [] .any,_,AV.aP,AS.le.refl _,?_,rfl⟩;rw [hD,if_neg (fun h=>hk h.2)];rfl
theorem vp (n : Nat) (hn : n < 32) (N : aa) (hr : N.right) (s : AS) :
  ah prog Γ 189 [.v (.int .i64 (n : Int)),.agg N.cells] s (fun r s'=>r = .v (.string ⟨(Sha.sum (mU (n : Int) N)).toArray⟩)∧s' = s):=by
 refine ab func189 rfl ntmps189 results189 (by simp) ?_;have hw:=fun s=>mK (Γ:=Γ) N hr s;have hT:=aa.dQ hr;have hB : mU (n : Int) N = 1 :: (be 4 n ++ N.text):=rfl;have Nu : (mU (n : Int) N).length≤110:=(by rw [hB]; simp; omega);have pz:=fun s=>lL (Γ:=Γ) (mU (n : Int) N) (by omega) s;rw [hB] at pz Nu;rw [show mU (n : Int) N = 1 :: (be 4 n ++ N.text) from rfl];generalize N.text = tx at *
 unfold aa.cells at *
 refine az 3 (by simp [bP]) ?_;intro K hK;refine jN @aC.eq_1 ?_;intro o ho;refine hK _ _ o _ rfl ho ?_;clear hK K ho;refine aZ T.mixed [2,5,7] (by kernel_rfl) ?_;intro K hK;refine jN (Ai @aC.eq_1 (ko n (show n < 2 ^ 64 by omega))) ?_;refine ae (bJ n 4 (by omega) (by omega) _) ?_;rintro r s1 ⟨rfl,rfl⟩;refine jN (Ai @aC.eq_1 @aW) ?_;refine ae (hw _) ?_;rintro r s2 ⟨rfl,rfl⟩;refine jN (Ai @aC.eq_1 (Ai @aW (Ai (bz (show 4 + 1 + tx.length < 2 ^ 62 by omega)) (bz (show 5 + tx.length < 2 ^ 62 by omega))))) ?_;refine ae (pz _) ?_;rintro r s3 ⟨rfl,rfl⟩;refine jR hK ?_;clear hK K;exact jJ
theorem sk (N : aa) (hr : N.right) (x y : List UInt8) (hxy : x.length + y.length≤2 ^ 30) (s : AS) :
  ah prog Γ 190 [.agg N.cells,.v (.string ⟨x.toArray⟩),.v (.string ⟨y.toArray⟩)] s (fun r s'=>r = .v (.string ⟨(Sha.sum (kx N x y)).toArray⟩)∧s' = s):=by
 refine ab func190 rfl ntmps190 results190 (by simp) ?_;have hw:=fun s=>mK (Γ:=Γ) N hr s;have hT:=aa.dQ hr;have hB : kx N x y = 2 :: (N.text ++ (x ++ y)):=rfl;have pz:=fun s=>lL (Γ:=Γ) (kx N x y) (by rw [hB]; simp; omega) s;rw [hB] at pz ⊢;generalize N.text = tx at *
 unfold aa.cells at *
 refine az 3 (by simp [bP]) ?_;intro K hK;refine jN @aC.eq_1 ?_;intro o ho;refine hK _ _ o _ rfl ho ?_;clear hK K ho;refine jS @aC.eq_1 fun K hK=>?_;refine ae (hw _) ?_;rintro r s2 ⟨rfl,rfl⟩;refine jN (Ai @aC.eq_1 (Ai (bz (show 1 + tx.length < 2 ^ 62 by omega)) (Ai (bz (show tx.length + 1 + x.length < 2 ^ 62 by omega)) (Ai (bz (show tx.length + (x.length + 1) + y.length < 2 ^ 62 by omega)) (bz (show tx.length + x.length + 1 + y.length < 2 ^ 62 by omega)))))) ?_;refine ae (pz _) ?_;rintro r s3 ⟨rfl,rfl⟩;refine jR hK ?_;clear hK K;exact jJ
theorem rZ (N : aa) (hk : N.key < 2 ^ 64) (hp : N.parent.length≤32) (x : List UInt8) (hx : x.length≤2 ^ 30) (s : AS) :
  ah prog Γ 169 [.agg N.cells,.v (.string ⟨x.toArray⟩)] s (fun r s'=>r = .v (.string ⟨(Sha.sum (lK N x)).toArray⟩)∧s' = s):=by
 refine ab func169 rfl ntmps169 results169 (by simp) ?_;have hB : lK N x = 3 :: (be 8 N.key ++ ((be 1 N.parent.length ++ N.parent) ++ x)):=rfl;have pz:=fun s=>lL (Γ:=Γ) (lK N x) (by rw [hB]; simp; omega) s;rw [hB] at pz ⊢;obtain ⟨k,m,y,pa,u⟩:=N;simp only at *
 unfold aa.cells at *
 refine az 2 (by simp [bP]) ?_;intro K hK;refine jN @aC.eq_1 ?_;intro o ho;refine hK _ _ o _ rfl ho ?_;clear hK K ho;refine aZ T.mixed [2,7,11] (by kernel_rfl) ?_;intro K hK;refine jN @aC.eq_1 ?_;refine ae (bJ y 8 hk (by omega) _) ?_;rintro r s1 ⟨rfl,rfl⟩;refine jN (Ai @aC.eq_1 @aW) ?_;refine ae (eA pa 1 (by omega) (by omega) _) ?_;rintro r s2 ⟨rfl,rfl⟩;refine jN (Ai @aC.eq_1 (Ai @aW (Ai (bz (show 9 + (1 + pa.length) < 2 ^ 62 by omega)) (bz (show 8 + (1 + pa.length) + 1 + x.length < 2 ^ 62 by omega))))) ?_;refine ae (pz _) ?_;rintro r s3 ⟨rfl,rfl⟩;refine jR hK ?_;clear hK K;exact jJ
def eM (t : List aa) : Nat→Nat→List UInt8
 | 0,n=>vn ((n / 2 : Nat) : Int) (nd t n)
 | l + 1,n=>lO (nd t n) (eM t l (n - 2 ^ l)) (eM t l (n + 2 ^ l))
theorem lU (t : List aa) : ∀ l n,(eM t l n).length≤32
 | 0,n=>by
  unfold eM vn;split
  ·rw [Sha.dq]; exact Nat.le_refl _
  ·simp
 | l + 1,n=>by
  unfold eM lO;split
  ·rw [Sha.dq]; exact Nat.le_refl _
  ·simp
theorem Ed (n9 : Γ 0 = gR Sha.H0) (kV : Γ 1 = Sha.K.map wV) (hG : Γ 3 = eW.map nj) (t : List aa) (ht : cV t) : ∀ (l n : Nat),lv n = l→n < 63→n + 2 ^ l≤t.length→∀ s,
  ah prog Γ 185 [ax t,.v (.int .i64 n)] s (fun r s'=>r = ak (eM t l n) .any∧s' = s):=by
 intro l;induction l with
 | zero =>
  intro n hl hn hs s;refine ab func185 rfl ntmps185 results185 (by simp) ?_;have lN:=fun s=>jc (Γ:=Γ) hG (n : Int) (by omega) s;rw [rL hn hl] at lN;have hi : n < t.length:=(by have : (2 : Nat) ^ 0 = 1:=rfl; omega);have bN:=cT hi;have hH:=fun s=>Aw (Γ:=Γ) n9 kV ((n / 2 : Nat) : Int) (by omega) (nd t n) (ht.nd n).1 s;have bR : eM t 0 n = vn ((n / 2 : Nat) : Int) (nd t n):=rfl;rw [bR];generalize vn ((n / 2 : Nat) : Int) (nd t n) = D at *
  generalize nd t n = N at *
  unfold ax;generalize au aa.cells t = X at *
  obtain ⟨nk,nm,ny,iq,nu⟩:=N;unfold aa.cells at bN hH;unfold aC at bN hH;have bK : (0 : Int)≤(n : Int):=(by omega);refine jA ?_;refine jK (lN _) ?_;rintro s1 rfl;refine wK fun K hK=>?_;refine jA ?_;refine jE ?_;refine wS fun K hK=>?_;simp only [↓DN,Qa,Qb,Qc,Qd,Qe,Qf,Qg,Qh,reduceCtorEq,↓reduceIte,Na,Nb,Nc,Nk,Nf,Ng,Nh,Za,Zb,Zc,TT,lG,dR n (by omega),af,hi,bK,bN];refine ae (hH _) ?_;rintro r s2 ⟨rfl,rfl⟩;refine jR hK ?_;clear hK K;exact jJ
 | succ l ih =>
  intro n hl hn hs s;refine ab func185 rfl ntmps185 results185 (by simp) ?_;obtain ⟨hk,KO,Ba,oq,JK,N7⟩:=nN hn hl;have lN:=fun s=>jc (Γ:=Γ) hG (n : Int) (by omega) s;have Oi:=fun s=>nZ (Γ:=Γ) hG (n : Int) (by omega) s;rw [hk] at lN Oi;have zi : 0 < 2 ^ l:=Nat.two_pow_pos l;have yh : 2 ^ (l + 1) = 2 ^ l + 2 ^ l:=(by rw [Nat.pow_succ]; omega);have hi : n < t.length:=(by omega);have bN:=cT hi;have h1:=fun s=>ih (n - 2 ^ l) KO (by omega) (by omega) s;have h2:=fun s=>ih (n + 2 ^ l) Ba oq (by omega) s;have hB:=fun s=>wJ (Γ:=Γ) n9 kV (nd t n) (ht.nd n).1 (eM t l (n - 2 ^ l)) (eM t l (n + 2 ^ l)) (by have:=lU t l (n - 2 ^ l); have:=lU t l (n + 2 ^ l); omega) s;have bR : eM t (l + 1) n = lO (nd t n) (eM t l (n - 2 ^ l)) (eM t l (n + 2 ^ l)):=rfl;rw [bR];clear ih bR;generalize lO (nd t n) (eM t l (n - 2 ^ l)) (eM t l (n + 2 ^ l)) = D at *
  generalize eM t l (n - 2 ^ l) = H1 at *
  generalize eM t l (n + 2 ^ l) = H2 at *
  generalize nd t n = N at *
  unfold ax at *
  generalize au aa.cells t = X at *
  obtain ⟨nk,nm,ny,iq,nu⟩:=N;unfold aa.cells at bN hB;unfold aC at bN hB;have bK : (0 : Int)≤(n : Int):=(by omega);refine jA ?_;refine jK (lN _) ?_;rintro s1 rfl;refine wK fun K hK=>?_;refine jA ?_;refine jF ?_;refine ad ?_;refine hK _ _ ?_;clear hK K;refine jK (Oi _) ?_;rintro s2 rfl;refine aZ T.mixed [6,9,10] (by kernel_rfl) ?_;intro K hK;simp only [↓DM,cw,DX,Nz,↓DN,Qa,Qb,Qc,Qd,Qe,Qf,Qg,Qh,reduceCtorEq,↓reduceIte,Na,Nb,Nc,Nk,Nf,Ng,Nh,Za,Zb,Zc,TT,af,hi,bK,bN];refine ae (h1 _) ?_;rintro r s3 ⟨rfl,rfl⟩;refine jM ?_;refine ae (h2 _) ?_;rintro r s4 ⟨rfl,rfl⟩;refine jM ?_;refine ae (hB _) ?_;rintro r s5 ⟨rfl,rfl⟩;refine jR hK ?_;clear hK K;exact jJ
theorem Gj {t : List aa} (hr : aA t) {n : Nat} (hn : n < 63) : vn ((n / 2 : Nat) : Int) (nd t n) = Sha.sum (mU ((n / 2 : Nat) : Int) (nd t n)):=by
 unfold vn;exact if_pos ⟨hr.nd n,by omega,by omega⟩
theorem BL {t : List aa} (hr : aA t) (n : Nat) (a b : List UInt8) : lO (nd t n) a b = Sha.sum (kx (nd t n) a b):=by
 unfold lO;exact if_pos (hr.nd n)
theorem yc (t : List aa) (ht : cV t) (hr : aA t) : ∀ (l n : Nat),lv n = l→n < 63→n + 2 ^ l≤t.length→∀ s,
  ah prog Γ 135 [ax t,.v (.int .i64 n)] s (fun r s'=>r = .v (.string ⟨(eM t l n).toArray⟩)∧s' = s):=by
 intro l;induction l with
 | zero =>
  intro n hl hn hs s;refine ab func135 rfl ntmps135 results135 (by simp) ?_;have lN:=fun s=>dw (Γ:=Γ) (n : Int) (by omega) s;rw [rL hn hl] at lN;have hi : n < t.length:=(by have : (2 : Nat) ^ 0 = 1:=rfl; omega);have bN:=cT hi;have hH:=fun s=>vp (Γ:=Γ) (n / 2) (by omega) (nd t n) (hr.nd n) s;have bR : eM t 0 n = Sha.sum (mU ((n / 2 : Nat) : Int) (nd t n)):=Gj hr hn;rw [bR];generalize Sha.sum (mU ((n / 2 : Nat) : Int) (nd t n)) = D at *
  generalize nd t n = N at *
  unfold ax;generalize au aa.cells t = X at *
  obtain ⟨nk,nm,ny,iq,nu⟩:=N;unfold aa.cells at bN hH;unfold aC at bN hH;have bK : (0 : Int)≤(n : Int):=(by omega);refine jA ?_;refine jK (lN _) ?_;rintro s1 rfl;refine wK fun K hK=>?_;refine jA ?_;refine jE ?_;refine wS fun K hK=>?_;simp only [↓DN,Qa,Qb,Qc,Qd,Qe,Qf,Qg,Qh,reduceCtorEq,↓reduceIte,Na,Nb,Nc,Nk,Nf,Ng,Nh,Za,Zb,Zc,TT,lG,dR n (by omega),af,hi,bK,bN];refine ae (hH _) ?_;rintro r s2 ⟨rfl,rfl⟩;refine jR hK ?_;clear hK K;exact jJ
 | succ l ih =>
  intro n hl hn hs s;refine ab func135 rfl ntmps135 results135 (by simp) ?_;obtain ⟨hk,KO,Ba,oq,JK,N7⟩:=nN hn hl;have lN:=fun s=>dw (Γ:=Γ) (n : Int) (by omega) s;rw [hk] at lN;have zi : 0 < 2 ^ l:=Nat.two_pow_pos l;have yh : 2 ^ (l + 1) = 2 ^ l + 2 ^ l:=(by rw [Nat.pow_succ]; omega);have hi : n < t.length:=(by omega);have bN:=cT hi;have h1:=fun s=>ih (n - 2 ^ l) KO (by omega) (by omega) s;have h2:=fun s=>ih (n + 2 ^ l) Ba oq (by omega) s;have hB:=fun s=>sk (Γ:=Γ) (nd t n) (hr.nd n) (eM t l (n - 2 ^ l)) (eM t l (n + 2 ^ l)) (by have:=lU t l (n - 2 ^ l); have:=lU t l (n + 2 ^ l); omega) s;have bR : eM t (l + 1) n = Sha.sum (kx (nd t n) (eM t l (n - 2 ^ l)) (eM t l (n + 2 ^ l))):=BL hr n _ _;rw [bR];clear ih bR;generalize Sha.sum (kx (nd t n) (eM t l (n - 2 ^ l)) (eM t l (n + 2 ^ l))) = D at *
  generalize eM t l (n - 2 ^ l) = H1 at *
  generalize eM t l (n + 2 ^ l) = H2 at *
  generalize nd t n = N at *
  unfold ax at *
  generalize au aa.cells t = X at *
  obtain ⟨nk,nm,ny,iq,nu⟩:=N;unfold aa.cells at bN hB;unfold aC at bN hB;have bK : (0 : Int)≤(n : Int):=(by omega);refine jA ?_;refine jK (lN _) ?_;rintro s1 rfl;refine wK fun K hK=>?_;refine jA ?_;refine jF ?_;refine ad ?_;refine hK _ _ ?_;clear hK K;refine aZ T.mixed [6,9,10] (by kernel_rfl) ?_;intro K hK;simp only [↓DM,cw,DX,Nz,↓DN,Qa,Qb,Qc,Qd,Qe,Qf,Qg,Qh,reduceCtorEq,↓reduceIte,Na,Nb,Nc,Nk,Nf,Ng,Nh,Za,Zb,Zc,TT,af,hi,bK,bN];refine ae (h1 _) ?_;rintro r s3 ⟨rfl,rfl⟩;refine jM ?_;refine ae (h2 _) ?_;rintro r s4 ⟨rfl,rfl⟩;refine jM ?_;refine ae (hB _) ?_;rintro r s5 ⟨rfl,rfl⟩;refine jR hK ?_;clear hK K;exact jJ
def oN (t : List aa) (x : Int) : List UInt8:=if 0≤x∧x < (t.length : Int)∧aA t then eM t (lv x.toNat) x.toNat else []
theorem Bw (n9 : Γ 0 = gR Sha.H0) (kV : Γ 1 = Sha.K.map wV) (hG : Γ 3 = eW.map nj) (t : List aa) (ht : cV t) (x : Int) (s : AS) :
  ah prog Γ 127 [ax t,.v (.int .i64 x)] s (fun r s'=>r = ak (oN t x) .any∧s' = s):=by
 refine ab func127 rfl ntmps127 results127 (by simp) ?_;have hr:=fun s=>cW (Γ:=Γ) hG t ht s;have hh:=fun n hn hs s=>Ed (Γ:=Γ) n9 kV hG t ht (lv n) n rfl hn hs s;have tT:=ht.1;have mZ : ¬ (0≤x∧x < (t.length : Int)∧aA t)→oN t x = []:=fun h=>if_neg h;have pF : 0≤x∧x < (t.length : Int)∧aA t→oN t x = eM t (lv x.toNat) x.toNat:=fun h=>if_pos h;unfold ax at *
 generalize au aa.cells t = X at *
 refine jA ?_;refine wK fun K hK=>?_;by_cases h0 : x < 0
 ·refine jB (decide_eq_true h0) ?_;refine jE ?_;refine jA ?_;refine jI ?_;refine ⟨_,_,AV.aP (sz:=1),AS.le.refl _,?_,rfl⟩;rw [mZ (fun k=>by omega)];rfl
 ·by_cases h1 : (t.length : Int)≤x
  ·refine jB (Ai (decide_eq_false h0) (decide_eq_true h1)) ?_;refine jE ?_;refine jA ?_;refine jI ?_;refine ⟨_,_,AV.aP (sz:=1),AS.le.refl _,?_,rfl⟩;rw [mZ (fun k=>by omega)];rfl
  ·refine jS (Ai (decide_eq_false h0) (decide_eq_false h1)) fun K hK=>?_;refine ae (hr _) ?_;rintro r s1 ⟨rfl,rfl⟩;by_cases fN : aA t
   ·rw [decide_eq_true fN];refine jR hK ?_;clear hK K;refine jF ?_;refine ad ?_;refine hK _ _ ?_;clear hK K;obtain ⟨n,rfl⟩:=Int.eq_ofNat_of_zero_le (show 0≤x by omega);have hn : n < t.length:=(by omega);obtain ⟨vE,vC⟩:=fN.span hn;refine jK (hh n vC vE _) ?_;rintro s2 rfl;refine jI ?_;refine jW ⟨?_,rfl⟩;rw [pF ⟨by omega,by omega,fN⟩,Int.toNat_natCast]
   ·rw [decide_eq_false fN];refine jR hK ?_;clear hK K;refine jE ?_;refine jA ?_;refine jI ?_;refine ⟨_,_,AV.aP (sz:=1),AS.le.refl _,?_,rfl⟩;rw [mZ (fun k=>fN k.2.2)];rfl
theorem Gk (l : List Int) (v : Int) (hl : l.length≤2 ^ 61) (s : AS) : ah prog Γ 142 [aC l .any,.v (.int .i64 v)] s (fun r s'=>r = .v (.int .i64 (dH (fun i=>v == l.getD i 0) l.length 0))∧s' = s):=by
 refine ab func142 rfl ntmps142 results142 (by simp) ?_;obtain ⟨Q,hQ⟩ : ∃ Q : Nat→Bool,Q = fun i=>v == l.getD i 0:=⟨_,rfl⟩;rw [← hQ];unfold aC;refine jA ?_;refine wK fun K hK=>?_;refine jA ?_;refine ag ?_;refine aH (fun E s2=>∃ i : Nat,i≤l.length∧dH Q (l.length - i) i = dH Q l.length 0∧E 8 = .v (.int .i64 i)∧E 7 = .v (.int .i64 l.length)∧E 0 = .sl 1 l.length (l.map aE) .any∧E 1 = .v (.int .i64 v)∧s2 = s)
  (fun E _=>match E 8 with | .v (.int _ i)=>l.length - i.toNat | _=>0) ?_ ?_
 ·exact ⟨0,Nat.zero_le _,rfl,rfl,rfl,rfl,rfl,rfl⟩
 ·rintro E1 s2 ⟨i,hi,hf,g8,g7,g0,g1,rfl⟩ -
  by_cases aO : i < l.length
  ·refine jB (Ai @g8 (Ai @g7 (Ai @af (decide_eq_true aO)))) ?_;refine wK fun K2 aX=>?_;refine jE ?_;refine ad ?_;refine aX _ _ ?_;clear aX K2;refine wK fun K3 bB=>?_;refine ag ?_;have CD : Q i = (v == l[i]):=(by rw [hQ]; simp [List.getD,aO]);obtain ⟨k',oB⟩ : ∃ k',l.length - i = k' + 1:=⟨l.length - i - 1,by omega⟩;have m9 : l.length - (i + 1) = k':=(by omega);rw [oB] at hf;have bN:=dC aO;have bK : (0 : Int)≤(i : Int):=(by omega);generalize l[i] = u at *
   refine jB @g8 ?_;by_cases hq : v = u
   ·have Ps : Q i = true:=(by rw [CD]; exact gB hq);refine jB (Ai @g1 (Ai @g0 (Ai @af (Ai @aO (Ai @bK (Ai @bN (gB hq))))))) ?_;refine jE ?_;refine jA ?_;refine jI ?_;rw [← hf,nL Ps];exact jW ⟨rfl,rfl⟩
   ·have Ps : Q i = false:=(by rw [CD]; exact e8 hq);refine jB (Ai @g1 (Ai @g0 (Ai @af (Ai @aO (Ai @bK (Ai @bN (e8 hq))))))) ?_;refine jF ?_;refine ad ?_;simp only [aq,av,if_true,if_false];refine bB _ _ ?_;clear bB K3;refine jD (Ai @g8 (aQ i (by omega))) ?_;refine ⟨⟨i + 1,by omega,by rw [m9,← hf,nK Ps],rfl,g7,g0,g1,rfl⟩,?_⟩;simp only [g8,aG,↓reduceIte];omega
  ·refine jB (Ai @g8 (Ai @g7 (Ai @af (decide_eq_false aO)))) ?_;refine wK fun K2 aX=>?_;refine jF ?_;refine aB ?_;simp only [av,aq,if_true];refine hK _ _ ?_;clear hK aX K2 K;rw [show l.length - i = 0 by omega] at hf;refine jA ?_;refine jI ?_;rw [← hf];exact jW ⟨rfl,rfl⟩
theorem mE (l : List Int) (v : Int) (hl : l.length≤2 ^ 61) (s : AS) : ah prog Γ 68 [aC l .any,.v (.int .i64 v)] s (fun r s'=>r = .v (.bool (decide (v ∈ l)))∧s' = s):=by
 refine ab func68 rfl ntmps68 results68 (by simp) ?_;have hc:=fun s=>Gk (Γ:=Γ) l v hl s;have ha:=Ac (fun x=>v == x) l;have hm : l.any (fun x=>v == x) = decide (v ∈ l):=by
  rw [Bool.eq_iff_iff,List.any_eq_true,decide_eq_true_iff];constructor
  ·rintro ⟨x,hx,he⟩;rw [beq_iff_eq.1 he]; exact hx
  ·intro h;exact ⟨v,h,by simp⟩
 rw [hm] at ha;generalize dH (fun i=>v == l.getD i 0) l.length 0 = n at *
 refine jA ?_;refine jK (hc _) ?_;rintro s1 rfl;refine jI ?_;rw [← ha];exact jW ⟨rfl,rfl⟩
end Go.Proofs.YtcjifoccjlpapaaGreatDoor
