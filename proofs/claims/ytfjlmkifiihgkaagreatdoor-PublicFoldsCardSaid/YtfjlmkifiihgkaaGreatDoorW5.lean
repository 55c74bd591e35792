/- Contracts of the program's functions, each walked once; the conditions stand in each theorem. -/
import Derived.Test.YtfjlmkifiihgkaaGreatDoorAMp6
import Derived.Test.YtfjlmkifiihgkaaGreatDoorW1
import Derived.Test.YtfjlmkifiihgkaaGreatDoorW4
import Derived.Test.YtfjlmkifiihgkaaGreatDoorW2
import Derived.Test.YtfjlmkifiihgkaaGreatDoorW3
set_option linter.unusedSimpArgs false
set_option linter.unusedVariables false
open Nat renaming reduceLT → Na, reduceLeDiff → Nb, reduceEqDiff → Nc, reduceAdd → Nk, reduceMul → Nf, reducePow → Ng, reduceSub → Nh, reduceBEq → Nz
open Int renaming reduceLT → Za, reduceLE → Zb, reduceToNat → Zc
open And renaming intro → Ai
open Go.AM renaming ashift → Qa, aconv → Qb, aindexAddr → Qc, aindex → Qd, aslice → Qe, abuiltin → Qf, awp_reg_seq → wS, awp_reg_end → wE, awp_seq_k → wK, awp_cond_k → wC
open Go.AM.AV renaming cells → Qg, one → Qh
set_option maxRecDepth 100000
set_option maxHeartbeats 8000000
set_option autoImplicit false
namespace Go.Proofs.YtfjlmkifiihgkaaGreatDoor
open Go Go.AM Go.Proofs
variable {Γ : Nat→List AV}
def chunkV (cs : List AV) (i : Nat) : AV:=.sl 1 64 (List.drop (64 * i) (List.take (64 * i + 64) cs)) .full
theorem chunk1_iter (cs : List AV) (t e m : Nat) (hl : cs.length = 64 * m) (hm : m≤2 ^ 40) :
  IterA Tryz.prog Γ 231 [.rop [.sl 1 (64 * m) cs (.own t e)],.rop [.v (.int .i64 64)]] ((List.range m).map (chunkV cs)):=by
 intro S l G W lb hdf hlb hs hy
 refine callsIn_of_wp Tryz.func231 rfl trivial ?_
 have hent:=Rel.entry (N:=31) (args:=[.v (.func (.yield l) #[] #[]),.rop [.sl 1 (64 * m) cs (.own t e)],.rop [.v (.int .i64 64)]]) (vs:=.func (.yield l) #[] #[] :: lb) hs (by simp only [VRels]; exact ⟨_,_,rfl,by simp [VRel],by simpa only [VRels] using hlb⟩) (by simp) hdf
 rw [show (#[.func (.yield l) #[] #[]] ++ lb.toArray : Array Value) = (.func (.yield l) #[] #[] :: lb).toArray from by simp,Tryz.ntmps231]
 refine wpIn_seq ?_
 refine wpIn_reg (l:=none) (K:=fun E1 s1=>E1 0 = .v (.func (.yield l) #[] #[])∧E1 1 = .rop [.sl 1 (64 * m) cs (.own t e)]∧E1 2 = .rop [.v (.int .i64 64)]∧E1 4 = .v (.int .i64 0)∧s1 = S 0) ?_ hent ?_
 ·simp only [↓DN,Qa,Qb,Qc,Qd,Qe,Qf,Qg,Qh,reduceCtorEq,↓reduceIte,Na,Nb,Nc,Nk,Nf,Ng,Nh,Za,Zb,Zc,TT]
 ·rintro G0 E0 s0 a0 w0 hle0 hr0 ⟨e0,e1,e2,e4,rfl⟩
  refine wpIn_block ?_
  refine wpIn_loop (fun a w=>∃ (i : Nat) (G1 : Gh) (E1 : Env),i≤m∧G.le G1∧Rel Γ 31 G1 E1 (S i) a w∧E1 0 = .v (.func (.yield l) #[] #[])∧E1 1 = .rop [.sl 1 (64 * m) cs (.own t e)]∧E1 2 = .rop [.v (.int .i64 64)]∧E1 4 = .v (.int .i64 ((64 * i : Nat) : Int)))
   (fun a _=>match a.tmps.getD 4 undef with | .int _ x=>64 * m - x.toNat | _=>0) ⟨0,G0,E0,Nat.zero_le _,hle0,hr0,e0,e1,e2,e4⟩ ?_
  rintro a w ⟨i,G1,E1,hi,hle,hr,e0,e1,e2,e4⟩
  have hmu : a.tmps.getD 4 undef = .int .i64 ((64 * i : Nat) : Int):=by
   have:=hr.tmps 4
   rw [e4] at this
   simpa only [VRel] using this
  refine wpIn_seq ?_
  by_cases hi' : i < m
  ·have hlt : ((64 * i : Nat) : Int) < ((64 * m : Nat) : Int):=by omega
   refine AWp.wide (Q:=fun x E' s'=>x = .normal∧s' = S i∧E' 0 = .v (.func (.yield l) #[] #[])∧E' 1 = .rop [.sl 1 (64 * m) cs (.own t e)]∧E' 2 = .rop [.v (.int .i64 64)]∧E' 4 = .v (.int .i64 ((64 * i : Nat) : Int))) ?_ hr ?_
   ·refine jB (Ai @e1 (Ai @e4 (decide_eq_true hlt))) ?_
    refine jE ?_
    refine awp_skip ?_
    simp only [upd,e0,e1,e2,e4,Nc,↓reduceIte,and_self]
   ·rintro x G2 E2 s2 a2 w2 hle2 hr2 ⟨rfl,rfl,f0,f1,f2,f4⟩
    refine wpIn_seq (wpIn_block (wpIn_seq ?_))
    have h0 : (0 : Int)≤((64 * i : Nat) : Int):=by omega
    have hle3 : ((64 * i : Nat) : Int)≤((64 * m : Nat) : Int):=by omega
    refine AWp.wide (Q:=fun x E' s'=>x = .normal∧s' = S i∧E' 0 = .v (.func (.yield l) #[] #[])∧E' 1 = .rop [.sl 1 (64 * m) cs (.own t e)]∧E' 2 = .rop [.v (.int .i64 64)]∧E' 4 = .v (.int .i64 ((64 * i : Nat) : Int))∧E' 5 = .v (.int .i64 64)) ?_ hr2 ?_
    ·have hmin : ¬ (((64 * m - 64 * i : Nat) : Int) < 64):=by omega
     refine awp_drw_end T.mixed [] (by kernel_rfl) ?_
     intro K hK
     refine jV (Ai @f1 (Ai @f2 (Ai @f4 (Ai @h0 (Ai @hle3 (Ai @Int.le_refl @hmin)))))) hK ?_;clear hK K
     simp only [upd,f0,f1,f2,f4,Nc,↓reduceIte,and_self]
    ·rintro x G3 E3 s3 a3 w3 hle3' hr3 ⟨rfl,rfl,g0,g1,g2,g4,g5⟩
     refine wpIn_seq ?_
     have hadd : iadd .i64 ((64 * i : Nat) : Int) 64 = ((64 * i + 64 : Nat) : Int):=i64_add (64 * i) 64 (by omega)
     have hlo : ((64 * i : Nat) : Int)≤((64 * i + 64 : Nat) : Int):=by omega
     have hhi : ((64 * i + 64 : Nat) : Int)≤((64 * m : Nat) : Int):=by omega
     refine wpIn_reg_yield12 (l:=l)
      (K1:=fun E' s'=>s' = S i∧E' 0 = .v (.func (.yield l) #[] #[])∧E' 1 = .rop [.sl 1 (64 * m) cs (.own t e)]∧E' 2 = .rop [.v (.int .i64 64)]∧E' 4 = .v (.int .i64 ((64 * i : Nat) : Int))∧E' 28 = chunkV cs i)
      (K2:=fun E' s'=>s' = S (i + 1)∧E' 0 = .v (.func (.yield l) #[] #[])∧E' 1 = .rop [.sl 1 (64 * m) cs (.own t e)]∧E' 2 = .rop [.v (.int .i64 64)]∧E' 4 = .v (.int .i64 ((64 * i : Nat) : Int))∧E' 30 = .v (.bool false))
      rfl rfl (by decide) ?_ hr3 ?_ ?_
     ·intro ops
      simp only [↓DN,Qa,Qb,Qc,Qd,Qe,Qf,Qg,Qh,reduceCtorEq,↓reduceIte,Na,Nb,Nc,Nk,Nf,Ng,Nh,Za,Zb,Zc,TT,g0,g1,g2,g4,g5,hadd,h0,hlo,hhi]
      rw [chunkV,show 64 * i + 64 - 64 * i = 64 by omega]
     ·rintro ops G4 E4 s4 a4 w4 hle4 hr4 ⟨rfl,k0,k1,k2,k4,k28⟩
      have hu:=hr4.tmps 28
      rw [k28] at hu
      obtain ⟨fn,tmps,assign,body,q1,q2⟩:=hy i (chunkV cs i) G4 (a4.tmps.getD 28 undef) w4 (by simp [hi']) (hle.trans (hle2.trans (hle3'.trans hle4))) hr4.st hu
      refine ⟨fn,tmps,assign,body,q1,RoundIn.mono (F:=Fence.wide) q2 ?_⟩
      rintro e' W' ⟨rfl,G5,b1,b2⟩
      refine ⟨rfl,G5,S (i + 1),b1,b2,?_⟩
      simp only [↓DN,Qa,Qb,Qc,Qd,Qe,Qf,Qg,Qh,reduceCtorEq,↓reduceIte,Na,Nb,Nc,Nk,Nf,Ng,Nh,Za,Zb,Zc,TT]
      simp only [upd,k0,k1,k2,k4,Nc,↓reduceIte,and_self]
     ·rintro G4 E4 s4 a4 w4 hle4 hr4 ⟨rfl,k0,k1,k2,k4,k30⟩
      show Code.wpIn Fence.wide 0 _ (Code.cond _ _ _) _ a4 w4
      refine AWp.wide (Q:=fun x E' s'=>x = .normal∧s' = S (i + 1)∧E' 0 = .v (.func (.yield l) #[] #[])∧E' 1 = .rop [.sl 1 (64 * m) cs (.own t e)]∧E' 2 = .rop [.v (.int .i64 64)]∧E' 4 = .v (.int .i64 ((64 * i : Nat) : Int))) ?_ hr4 ?_
      ·refine awp_cond_false k30 (awp_skip ?_)
       simp only [k0,k1,k2,k4,and_self]
      ·rintro x G5 E5 s5 a5 w5 hle5 hr5 ⟨rfl,rfl,q0,q1,q2,q4⟩
       show Code.wpIn Fence.wide 0 _ (Code.region _ _ _) _ a5 w5
       refine wpIn_reg (l:=none) (K:=fun E' s'=>s' = S (i + 1)∧E' 0 = .v (.func (.yield l) #[] #[])∧E' 1 = .rop [.sl 1 (64 * m) cs (.own t e)]∧E' 2 = .rop [.v (.int .i64 64)]∧E' 4 = .v (.int .i64 ((64 * (i + 1) : Nat) : Int))) ?_ hr5 ?_
       ·simp only [↓DN,Qa,Qb,Qc,Qd,Qe,Qf,Qg,Qh,reduceCtorEq,↓reduceIte,Na,Nb,Nc,Nk,Nf,Ng,Nh,Za,Zb,Zc,TT,q0,q1,q2,q4,hadd]
        rfl
       ·rintro G6 E6 s6 a6 w6 hle6 hr6 ⟨rfl,p0,p1,p2,p4⟩
        refine ⟨⟨i + 1,G6,E6,hi',hle.trans (hle2.trans (hle3'.trans (hle4.trans (hle5.trans hle6)))),hr6,p0,p1,p2,p4⟩,?_⟩
        have:=hr6.tmps 4
        rw [p4] at this
        simp only [VRel] at this
        rw [this,hmu]
        simp only [Int.toNat_natCast]
        omega
  ·obtain rfl : i = m:=by omega
   have hlt : ¬ ((64 * i : Nat) : Int) < ((64 * i : Nat) : Int):=by omega
   refine AWp.wide (Q:=fun x E' s'=>x = .exit 0∧s' = S i) ?_ hr ?_
   ·refine jB (Ai @e1 (Ai @e4 (decide_eq_false hlt))) ?_
    refine jF ?_
    refine awp_exit ?_
    exact ⟨rfl,rfl⟩
   ·rintro x G2 E2 s2 a2 w2 hle2 hr2 ⟨rfl,rfl⟩
    refine ⟨hr2.defers.trans (hle2.df.trans (hle.df.trans hdf)),.tuple #[],?_,⟨_,rfl⟩,G2,hle.trans hle2,by simpa using hr2.st⟩
    rw [results_eq,Tryz.results231]
    simp
end Go.Proofs.YtfjlmkifiihgkaaGreatDoor
namespace Go.Proofs.YtfjlmkifiihgkaaGreatDoor
open Go Go.AM Go.Proofs
variable {Γ : Nat→List AV}
theorem chunk_calls (cs : List AV) (n t e : Nat) (s : AS) :
  ACalls Tryz.prog Γ 172 [.sl 1 n cs (.own t e),.v (.int .i64 64)] s (fun r s'=>r = .clo 231 [.rop [.sl 1 n cs (.own t e)],.rop [.v (.int .i64 64)]]∧s' = s):=by
 refine acalls_body Tryz.func172 rfl Tryz.ntmps172 Tryz.results172 (by simp) ?_
 refine awp_reg_frz2 2 3 (by decide) (by decide) (by decide) ?_
 intro K hK
 simp only [↓DM,pval,DX,Nz,↓DN,Qa,Qb,Qc,Qd,Qe,Qf,Qg,Qh,reduceCtorEq,↓reduceIte,Na,Nb,Nc,Nk,Nf,Ng,Nh,Za,Zb,Zc,TT]
 intro o1 h1 o2 h2
 refine hK _ _ o1 o2 _ _ (by simp only [upd,Nc,↓reduceIte]) (by simp only [upd,Nc,↓reduceIte]) h1 (by rw [AS.set_objs_eq]; exact h2) ?_
 clear hK K
 refine wK fun K hK=>?_
 refine jA ?_
 refine jF ?_
 refine awp_skip ?_
 refine hK _ _ ?_;clear hK K
 refine jA ?_
 exact jJ
theorem chunk_blk (l : List UInt8) (i : Nat) (h : 64 * (i + 1)≤l.length) : chunkV (l.map byteV) i = .sl 1 64 ((Sha.blk l i).map byteV) .full∧(Sha.blk l i).length = 64:=by
 have e1 : Sha.blk l i = List.drop (64 * i) (List.take (64 * i + 64) l):=by
  rw [Sha.blk,List.drop_take]
  congr 1
  omega
 constructor
 ·rw [chunkV,e1]
  simp only [List.map_drop,List.map_take]
 ·simp only [Sha.blk,List.length_take,List.length_drop]
  omega
def outB (t : Sha.St) (i : Nat) : List UInt8:=((t.list.take i).map Sha.be).flatten
theorem outB_succ (t : Sha.St) (i : Nat) (h : i < 8) : outB t i ++ Sha.be (t.list.getD i 0) = outB t (i + 1):=by
 rcases at8 h with rfl | rfl | rfl | rfl | rfl | rfl | rfl | rfl <;> rfl
theorem rep4 (x : AV) : List.replicate 4 x = [x,x,x,x]:=rfl
theorem outB_full (t : Sha.St) : outB t 8 = t.bytes:=rfl
theorem outB_len (t : Sha.St) (i : Nat) (h : i≤8) : (outB t i).length = 4 * i:=by
 rcases Nat.lt_or_ge i 8 with h' | h'
 ·rcases at8 h' with rfl | rfl | rfl | rfl | rfl | rfl | rfl | rfl <;> rfl
 ·obtain rfl : i = 8:=by omega
  rfl
theorem stC_get (t : Sha.St) (i : Nat) (h : i < 8) : (stC t)[i]? = some (wV (t.list.getD i 0)):=by
 rcases at8 h with rfl | rfl | rfl | rfl | rfl | rfl | rfl | rfl <;> rfl
theorem sum_calls (hG0 : Γ 0 = stC Sha.H0) (hG : Γ 1 = Sha.K.map wV) (ls : List (List UInt8)) (sp : Sp) (hn : ls.length≤2 ^ 40) (hl : ls.flatten.length≤2 ^ 40) (s : AS) :
  ACalls Tryz.prog Γ 94 [.sl 1 ls.length (PartsB ls) sp] s (fun r s'=>OutS s (Sha.sum ls.flatten) r s'):=by
 generalize hfl : ls.flatten = l at *
 have hf:=Tryz.func94
 refine acalls_of_range hf rfl (by rw [Tryz.ntmps94]; simp) ?_
 rw [Tryz.ntmps94]
 intro G a w hdf hr
 refine wpIn_seq ?_
 refine wpIn_reg (l:=none) (K:=fun E' s'=>s' = s∧E' 0 = .sl 1 ls.length (PartsB ls) sp) ?_ hr ?_
 ·simp only [↓DN,Qa,Qb,Qc,Qd,Qe,Qf,Qg,Qh,reduceCtorEq,↓reduceIte,Na,Nb,Nc,Nk,Nf,Ng,Nh,Za,Zb,Zc,TT]
 ·rintro G1 E1 s1 a1 w1 hle1 hr1 ⟨rfl,e0⟩
  refine wpIn_seq ?_
  refine wpIn_reg (l:=none) (K:=fun E' s'=>∃ o3,s1.objs o3 = none∧s' = s1.set o3 (stC Sha.H0)∧E' 0 = .sl 1 ls.length (PartsB ls) sp∧E' 3 = .ptr o3 0) ?_ hr1 ?_
  ·simp only [↓DN,Qa,Qb,Qc,Qd,Qe,Qf,Qg,Qh,reduceCtorEq,↓reduceIte,Na,Nb,Nc,Nk,Nf,Ng,Nh,Za,Zb,Zc,TT,hG0]
   intro o ho
   exact ⟨o,ho,rfl,e0,rfl⟩
  ·rintro G2 E2 s2 a2 w2 hle2 hr2 ⟨o3,ho3,rfl,f0,f3⟩
   refine wpIn_seq (wpIn_seq ?_)
   have hpl:=Sha.pad_length l
   have hpm:=Sha.pad_mod l
   obtain ⟨m,hm⟩ : ∃ m,(Sha.pad l).length = 64 * m:=⟨(Sha.pad l).length / 64,by omega⟩
   have hz : Sha.zeros l.length < 64:=by rw [Sha.zeros]; omega
   refine wpIn_reg (l:=none) (K:=fun E' s'=>∃ t e,(s1.set o3 (stC Sha.H0)).le s'∧E' 3 = .ptr o3 0∧E' 12 = .clo 231 [.rop [.sl 1 (64 * m) ((Sha.pad l).map byteV) (.own t e)],.rop [.v (.int .i64 64)]]) ?_ hr2 ?_
   ·simp only [↓DN,Qa,Qb,Qc,Qd,Qe,Qf,Qg,Qh,reduceCtorEq,↓reduceIte,Na,Nb,Nc,Nk,Nf,Ng,Nh,Za,Zb,Zc,TT,f0]
    refine acallk (concat_calls ls sp (by omega) (by rw [hfl]; omega) _) ?_
    intro r sa hout
    rw [hfl] at hout
    simp only [↓DN,Qa,Qb,Qc,Qd,Qe,Qf,Qg,Qh,reduceCtorEq,↓reduceIte,Na,Nb,Nc,Nk,Nf,Ng,Nh,Za,Zb,Zc,TT]
    refine acallk (padded_calls l (by omega) _ _ _ hout) ?_
    intro r sb hout
    obtain ⟨t,e,hr0⟩:=outS_own hout (by rw [← List.length_pos_iff]; omega)
    rw [hr0,hm] at *
    simp only [↓DN,Qa,Qb,Qc,Qd,Qe,Qf,Qg,Qh,reduceCtorEq,↓reduceIte,Na,Nb,Nc,Nk,Nf,Ng,Nh,Za,Zb,Zc,TT]
    refine acallk (chunk_calls _ _ t e _) ?_
    rintro r sc ⟨rfl,rfl⟩
    simp only [↓DN,Qa,Qb,Qc,Qd,Qe,Qf,Qg,Qh,reduceCtorEq,↓reduceIte,Na,Nb,Nc,Nk,Nf,Ng,Nh,Za,Zb,Zc,TT]
    exact ⟨t,e,hout.1,f3,rfl⟩
   ·rintro G3 E3 s3 a3 w3 hle3 hr3 ⟨t,e,hse,g3,g12⟩
    refine wpIn_block ?_
    have hle03 : G.le G3:=hle1.trans (hle2.trans hle3)
    have hdf3 : G3.df = []:=hle03.df.trans hdf
    have hoc : s3.objs o3 = some (stC Sha.H0):=hse.objs _ _ (AS.set_objs_same _ _ _)
    have hm40 : m≤2 ^ 40:=by omega
    refine wpIn_mono (wpIn_range_rel (p:=13) (g:=.tmp 12) hr3 hdf3 g12 (by kernel_rfl) (chunk1_iter ((Sha.pad l).map byteV) t e m (by simpa using hm) hm40) (by decide) (fun i=>s3.set o3 (stC (Sha.hash (Sha.pad l) i))) (AS.set_self hoc) (fun x=>upd (upd E3 13 x) 4 x) ?_ ?_) ?_
    ·rintro lp i x G4 a4 W hx hr4
     refine wpIn_reg (l:=some lp) (K:=fun E' s'=>E' = upd (upd E3 13 x) 4 x∧s' = s3.set o3 (stC (Sha.hash (Sha.pad l) i))) ?_ hr4 ?_
     ·simp only [↓DN,Qa,Qb,Qc,Qd,Qe,Qf,Qg,Qh,reduceCtorEq,↓reduceIte,Na,Nb,Nc,Nk,Nf,Ng,Nh,Za,Zb,Zc,TT]
     ·rintro G5 E5 s5 a5 w5 hle5 hr5 ⟨rfl,rfl⟩
      exact ⟨rfl,G5,hle5,hr5⟩
    ·rintro lp i x G4 a4 W hx hr4
     refine wpIn_block ?_
     have hi : i < m:=by
      have:=(List.getElem?_eq_some_iff.1 hx).1
      simpa using this
     obtain rfl : chunkV ((Sha.pad l).map byteV) i = x:=by simpa [hi] using hx
     obtain ⟨hcv,hcl⟩:=chunk_blk (Sha.pad l) i (by omega)
     refine wpIn_reg (l:=some lp) (K:=fun E' s'=>s' = s3.set o3 (stC (Sha.hash (Sha.pad l) (i + 1)))) ?_ hr4 ?_
     ·simp only [↓DN,Qa,Qb,Qc,Qd,Qe,Qf,Qg,Qh,reduceCtorEq,↓reduceIte,Na,Nb,Nc,Nk,Nf,Ng,Nh,Za,Zb,Zc,TT,g3]
      rw [hcv]
      have hmx:=mix_calls hG (Sha.hash (Sha.pad l) i) (Sha.hash_ok _ i) (Sha.blk (Sha.pad l) i) hcl (s3.set o3 (stC (Sha.hash (Sha.pad l) i)))
      rw [bytesV,hcl] at hmx
      refine acallk (ACalls.weaks (.cons (.refl _) (.cons AV.weak_any .nil)) hmx) ?_
      rintro r sd ⟨rfl,rfl⟩
      simp only [↓DN,Qa,Qb,Qc,Qd,Qe,Qf,Qg,Qh,reduceCtorEq,↓reduceIte,Na,Nb,Nc,Nk,Nf,Ng,Nh,Za,Zb,Zc,TT,g3]
      rfl
     ·rintro G5 E5 s5 a5 w5 hle5 hr5 rfl
      exact ⟨rfl,G5,hle5,hr5.st⟩
    ·rintro x a4 w4 ⟨rfl,D,G4,hle4,hD,hDk,rfl,hs4⟩
     have hxl : ((List.range m).map (chunkV ((Sha.pad l).map byteV))).length = m:=by simp
     rw [hxl] at hs4
     obtain ⟨u,hu⟩ : ∃ u,u = Sha.hash (Sha.pad l) m:=⟨_,rfl⟩
     have hbytes : u.bytes = Sha.sum l:=by rw [hu,Sha.sum,hm,Nat.mul_div_cancel_left _ (by decide)]
     rw [← hu] at hs4
     have hle1' : s1.le (s3.set o3 (stC u)):=by
      refine AS.le_set (AS.le.trans ?_ hse) ho3 _
      exact AS.le_set (AS.le.refl s1) ho3 _
     have ho4 : (s3.set o3 (stC u)).objs o3 = some (stC u):=AS.set_objs_same _ _ _
     obtain ⟨s4,hs4e⟩ : ∃ s4,s4 = s3.set o3 (stC u):=⟨_,rfl⟩
     rw [← hs4e] at hs4 hle1' ho4
     show Code.wpIn Fence.wide 0 _ _ _ _ w4
     refine AWp.behind (Q:=retQ Tryz.prog Tryz.f94.results.toList (fun r s'=>OutS s1 (Sha.sum l) r s')) hr3 hle4 hDk hs4 hdf3 ?_ ?_
     ·refine jA ?_
      refine wK fun K hK=>?_
      refine jB (Ai @g3 @ho4) ?_
      refine awp_block ?_
      obtain ⟨Z0,hZ0⟩ : ∃ Z0,Z0 = stC u:=⟨_,rfl⟩
      refine awp_loop (fun E s2=>∃ i : Nat,i≤8∧E 17 = .agg Z0∧E 18 = .v (.int .i64 i)∧OutS s1 (outB u i) (E 5) s2)
       (fun E _=>match E 18 with | .v (.int _ i)=>8 - i.toNat | _=>0) ?_ ?_
      ·exact ⟨0,by omega,by simp only [upd,Nc,↓reduceIte,hZ0],by simp only [upd,↓reduceIte]; rfl,hle1',.inl ⟨rfl,by simp only [upd,Nc,↓reduceIte]⟩⟩
      ·rintro E5 s5 ⟨i,hi,p17,p18,pout⟩ -
       by_cases hi' : i < 8
       ·have hi2 : (i : Int) < 8:=by omega
        have hi0 : (0 : Int)≤(i : Int):=by omega
        refine jB (Ai @p18 (decide_eq_true hi2)) ?_
        refine wK fun K2 hK2=>?_
        refine jE ?_
        refine awp_skip ?_
        refine hK2 _ _ ?_;clear hK2 K2
        refine wK fun K3 hK3=>?_
        refine awp_block ?_
        have hget:=stC_get u i hi'
        rw [← hZ0] at hget
        have hsucc:=outB_succ u i hi'
        have hol:=outB_len u i hi
        generalize u.list.getD i 0 = x at *
        have s24 : ishr .u32 (x : Int) 24 = ((x / 2 ^ 24 : Nat) : Int):=wshr x 24 (by decide)
        have s16 : ishr .u32 (x : Int) 16 = ((x / 2 ^ 16 : Nat) : Int):=wshr x 16 (by decide)
        have s8 : ishr .u32 (x : Int) 8 = ((x / 2 ^ 8 : Nat) : Int):=wshr x 8 (by decide)
        refine jB (Ai @p17 (Ai @p18 (Ai @hi0 (Ai @hi2 (Ai @c8 @hget))))) ?_
        generalize hr6 : E5 5 = r6 at pout
        refine jU (Ai @hr6 (Ai @s24 (Ai @s16 (Ai @s8 @rep4)))) fun K hK=>?_
        refine aappend_out (ds:=Sha.be x) pout rfl (by simp only [Sha.be,List.map_cons,List.map_nil,byte_of]) T.c5 T.b5 (by rw [hol]; simp only [Sha.be,List.length_cons,List.length_nil]; omega) ?_
        intro r2 s6 h6
        rw [hsucc] at h6
        refine hK _ _ ?_
        clear hK
        simp only [thenQ,blockQ,if_true,if_false]
        refine hK3 _ _ ?_;clear hK3 K3
        refine jD (Ai @p18 (w_succ i (by omega))) ?_
        refine ⟨⟨i + 1,by omega,by simp only [upd,p17,Nc,↓reduceIte],by simp only [upd,↓reduceIte],by simpa only [upd,Nc,↓reduceIte] using h6⟩,?_⟩
        simp only [p18,upd,↓reduceIte]
        omega
       ·have hi2 : ¬ (i : Int) < 8:=by omega
        obtain rfl : i = 8:=by omega
        refine jB (Ai @p18 (decide_eq_false hi2)) ?_
        refine wK fun K2 hK2=>?_
        refine jF ?_
        refine awp_exit ?_
        simp only [thenQ,blockQ,if_true]
        clear hK2 K2
        refine hK _ _ ?_;clear hK K
        rw [outB_full,hbytes] at pout
        generalize hr6 : E5 5 = r6 at pout
        refine jB @hr6 ?_
        refine awp_ret ?_
        rw [Tryz.results94]
        simp only [retQ,AEnds,aresL,ares,List.toList_toArray,↓upd_same]; try simp only [UP,DF,Nc,↓reduceIte,DT]
        exact ⟨_,_,AV.weak.refl _,AS.le.refl _,pout⟩
     ·intro e5 G5 E5 s5 a5 w5 hle5 hD5 hdf5 hr5 hret
      refine ⟨?_,D,G5,E5,s5,hle03.trans hle5,?_,hD5,hdf5,hr5,?_⟩
      ·cases e5 <;> simp only [retQ] at hret <;> simp
      ·have q1:=hr3.st.below.size
       have q2:=hr3.st.base
       rw [hle03.w0] at q1
       rw [hle03.B] at q2
       exact ⟨Nat.le_trans q1 hD,Nat.le_trans q2 hD⟩
      ·cases e5 <;> simp only [retQ] at hret <;> exact hret
end Go.Proofs.YtfjlmkifiihgkaaGreatDoor
namespace Go.Proofs.YtfjlmkifiihgkaaGreatDoor
open Go Go.AM Go.Proofs
variable {Γ : Nat→List AV}
structure Kp (oh m : Nat) (pl : List UInt8) (sp : Sp) (i : Nat) (E : Env) : Prop where
  h3 : E 3 = .osl oh 0 1 8 8
  h4 : E 4 = .sl 1 64 (Sha.K.map wV) .no
  h5 : E 5 = .sl 1 (64 * m) (pl.map byteV) sp
  h6 : E 6 = .v (.int .i64 ((64 * i : Nat) : Int))
theorem Kp.upd {oh m i d : Nat} {pl : List UInt8} {sp : Sp} {E : Env} {v : AV} (h : Kp oh m pl sp i E) (hd : d≠3∧d≠4∧d≠5∧d≠6) : Kp oh m pl sp i (upd E d v) :=
  ⟨by rw [upd_ne _ _ (Ne.symm hd.1)]; exact h.h3,by rw [upd_ne _ _ (Ne.symm hd.2.1)]; exact h.h4,by rw [upd_ne _ _ (Ne.symm hd.2.2.1)]; exact h.h5,by rw [upd_ne _ _ (Ne.symm hd.2.2.2)]; exact h.h6⟩
structure Kq (ow : Nat) (E : Env) : Prop where
  h7 : E 7 = .osl ow 0 1 64 64
theorem Kq.upd {ow d : Nat} {E : Env} {v : AV} (h : Kq ow E) (hd : d≠7) : Kq ow (upd E d v):=⟨by rw [upd_ne _ _ (Ne.symm hd)]; exact h.h7⟩
structure Kr (cs : List AV) (sp : Sp) (E : Env) : Prop where
  h13 : E 13 = .sl 1 8 cs sp
theorem Kr.upd {cs : List AV} {sp : Sp} {d : Nat} {E : Env} {v : AV} (h : Kr cs sp E) (hd : d≠13) : Kr cs sp (upd E d v):=⟨by rw [upd_ne _ _ (Ne.symm hd)]; exact h.h13⟩
end Go.Proofs.YtfjlmkifiihgkaaGreatDoor
namespace Go.Proofs.YtfjlmkifiihgkaaGreatDoor
open Go Go.AM Go.Proofs
variable {Γ : Nat→List AV}
theorem index_calls (l : List Int) (v : Int) (hl : l.length≤2 ^ 61) (s : AS) : ACalls Tryz.prog Γ 212 [intsV l .any,.v (.int .i64 v)] s (fun r s'=>r = .v (.int .i64 (firstN (fun i=>v == l.getD i 0) l.length 0))∧s' = s):=by
 refine acalls_body Tryz.func212 rfl Tryz.ntmps212 Tryz.results212 (by simp) ?_
 obtain ⟨Q,hQ⟩ : ∃ Q : Nat→Bool,Q = fun i=>v == l.getD i 0:=⟨_,rfl⟩
 rw [← hQ]
 unfold intsV
 refine jA ?_
 refine wK fun K hK=>?_
 refine jA ?_
 refine awp_block ?_
 refine awp_loop (fun E s2=>∃ i : Nat,i≤l.length∧firstN Q (l.length - i) i = firstN Q l.length 0∧E 8 = .v (.int .i64 i)∧E 7 = .v (.int .i64 l.length)∧E 0 = .sl 1 l.length (l.map intC) .any∧E 1 = .v (.int .i64 v)∧s2 = s)
  (fun E _=>match E 8 with | .v (.int _ i)=>l.length - i.toNat | _=>0) ?_ ?_
 ·exact ⟨0,Nat.zero_le _,rfl,by simp only [upd,Nc,↓reduceIte]; rfl,by simp only [upd,Nc,↓reduceIte],by simp only [upd,initE,List.getD_cons_zero,List.getD_cons_succ,Nc,↓reduceIte],by simp only [upd,initE,List.getD_cons_zero,List.getD_cons_succ,Nc,↓reduceIte],rfl⟩
 ·rintro E1 s2 ⟨i,hi,hf,g8,g7,g0,g1,rfl⟩ -
  by_cases hi' : i < l.length
  ·refine jB (Ai @g8 (Ai @g7 (Ai @eye_lt_nat (decide_eq_true hi')))) ?_
   refine wK fun K2 hK2=>?_
   refine jE ?_
   refine awp_skip ?_
   refine hK2 _ _ ?_;clear hK2 K2
   refine wK fun K3 hK3=>?_
   refine awp_block ?_
   have hQi : Q i = (v == l[i]):=by rw [hQ]; simp [List.getD,hi']
   obtain ⟨k',hk1⟩ : ∃ k',l.length - i = k' + 1:=⟨l.length - i - 1,by omega⟩
   have hk2 : l.length - (i + 1) = k':=by omega
   rw [hk1] at hf
   have hat:=eat_int hi'
   have hge : (0 : Int)≤(i : Int):=by omega
   generalize l[i] = u at *
   refine jB @g8 ?_
   by_cases hq : v = u
   ·have hq1 : Q i = true:=by rw [hQi]; exact yesI hq
    refine jB (Ai @g1 (Ai @g0 (Ai @eye_lt_nat (Ai @hi' (Ai @hge (Ai @hat (yesI hq))))))) ?_
    refine jE ?_
    refine jA ?_
    refine jI ?_
    rw [← hf,firstN_here hq1]
    exact ⟨_,_,AV.weak.refl _,AS.le.refl _,rfl,rfl⟩
   ·have hq1 : Q i = false:=by rw [hQi]; exact notI hq
    refine jB (Ai @g1 (Ai @g0 (Ai @eye_lt_nat (Ai @hi' (Ai @hge (Ai @hat (notI hq))))))) ?_
    refine jF ?_
    refine awp_skip ?_
    simp only [blockQ,thenQ,if_true,if_false]
    refine hK3 _ _ ?_;clear hK3 K3
    refine jD (Ai @g8 (eye_succM i (by omega))) ?_
    refine ⟨⟨i + 1,by omega,by rw [hk2,← hf,firstN_step hq1],by simp only [upd,Nc,↓reduceIte],by simp only [upd,g7,Nc,↓reduceIte],by simp only [upd,g0,Nc,↓reduceIte],by simp only [upd,g1,Nc,↓reduceIte],rfl⟩,?_⟩
    simp only [g8,upd,↓reduceIte]
    omega
  ·refine jB (Ai @g8 (Ai @g7 (Ai @eye_lt_nat (decide_eq_false hi')))) ?_
   refine wK fun K2 hK2=>?_
   refine jF ?_
   refine awp_exit ?_
   simp only [thenQ,blockQ,if_true]
   refine hK _ _ ?_;clear hK hK2 K2 K
   rw [show l.length - i = 0 by omega] at hf
   refine jA ?_
   refine jI ?_
   rw [← hf]
   exact ⟨_,_,AV.weak.refl _,AS.le.refl _,rfl,rfl⟩
theorem contains_calls (l : List Int) (v : Int) (hl : l.length≤2 ^ 61) (s : AS) : ACalls Tryz.prog Γ 147 [intsV l .any,.v (.int .i64 v)] s (fun r s'=>r = .v (.bool (decide (v ∈ l)))∧s' = s):=by
 refine acalls_body Tryz.func147 rfl Tryz.ntmps147 Tryz.results147 (by simp) ?_
 have hc:=fun s=>index_calls (Γ:=Γ) l v hl s
 have ha:=firstN_any (fun x=>v == x) l
 have hm : l.any (fun x=>v == x) = decide (v ∈ l):=by
  rw [Bool.eq_iff_iff,List.any_eq_true,decide_eq_true_iff]
  constructor
  ·rintro ⟨x,hx,he⟩
   rw [beq_iff_eq.1 he]; exact hx
  ·intro h
   exact ⟨v,h,by simp⟩
 rw [hm] at ha
 generalize firstN (fun i=>v == l.getD i 0) l.length 0 = n at *
 refine jA ?_
 refine jK (hc _) ?_;rintro s1 rfl
 refine jI ?_
 rw [← ha]
 exact ⟨_,_,AV.weak.refl _,AS.le.refl _,rfl,rfl⟩
end Go.Proofs.YtfjlmkifiihgkaaGreatDoor
namespace Go.Proofs.YtfjlmkifiihgkaaGreatDoor
open Go Go.AM Go.Proofs
variable {Γ : Nat→List AV}
def RES (s0 : AS) (k : Nat) (cs : List AV) (L : List Int) (r : AV) (s' : AS) : Prop:=RBuf 1 s0 s' r (k + L.length) (cs ++ L.map intC)∧s0.le s'
end Go.Proofs.YtfjlmkifiihgkaaGreatDoor
namespace Go.Proofs.YtfjlmkifiihgkaaGreatDoor
open Go Go.AM Go.Proofs
variable {Γ : Nat→List AV}
def NewBuf (s s' : AS) (r : AV) (l : List Int) : Prop:=OBuf 1 s' r l.length (l.map intC)∧(∀ o,onm r = some o→s.objs o = none)∧s.le s'
theorem intsCloneB_nil (s : AS) : ACalls Tryz.prog Γ 210 [nilS] s (fun r s'=>NewBuf s s' r []):=by
 refine acalls_body Tryz.func210 rfl Tryz.ntmps210 Tryz.results210 (by simp) ?_
 unfold nilS
 refine jA ?_
 refine wK fun K hK=>?_
 refine jA ?_
 refine jE ?_
 refine jA ?_
 refine jI ?_
 exact ⟨_,_,AV.weak.refl _,AS.le.refl _,.inl ⟨rfl,rfl,.inl rfl⟩,(fun o h=>by cases h),AS.le.refl _⟩
theorem intsCloneB_no (l : List Int) (s : AS) (hl : l.length≤2 ^ 42) : ACalls Tryz.prog Γ 210 [intsV l .no] s (fun r s'=>NewBuf s s' r l):=by
 refine acalls_body Tryz.func210 rfl Tryz.ntmps210 Tryz.results210 (by simp) ?_
 unfold intsV
 refine jA ?_
 refine wK fun K hK=>?_
 refine jB @and_false ?_
 refine jF ?_
 refine awp_skip ?_
 refine hK _ _ ?_;clear hK K
 by_cases h0 : l.length = 0
 ·have hl0 : l = []:=List.eq_nil_of_length_eq_zero h0
  subst hl0
  refine jA ?_
  refine jI ?_
  exact ⟨_,s,AV.weak.refl _,AS.le.refl s,.inl ⟨rfl,rfl,.inr (.inr rfl)⟩,(fun o h=>by cases h),AS.le.refl _⟩
 ·refine awp_reg_at2 rfl (by decide) ?_
  intro ops
  simp only [↓DM,pval,DX,Nz,↓DN,Qa,Qb,Qc,Qd,Qe,Qf,Qg,Qh,reduceCtorEq,↓reduceIte,Na,Nb,Nc,Nk,Nf,Ng,Nh,Za,Zb,Zc,TT]
  refine ⟨_,fun G a w hr=>append_own_res (n:=0) (m:=l.length) (cs:=[]) (ds:=l.map intC) (e:=3) (z:=[.v (.int .i64 0)]) rfl Tryz.underlying39 (by simp only [↓DN,Qa,Qb,Qc,Qd,Qe,Qf,Qg,Qh,reduceCtorEq,↓reduceIte,Na,Nb,Nc,Nk,Nf,Ng,Nh,Za,Zb,Zc,TT]; try rfl) (by simp only [↓DN,Qa,Qb,Qc,Qd,Qe,Qf,Qg,Qh,reduceCtorEq,↓reduceIte,Na,Nb,Nc,Nk,Nf,Ng,Nh,Za,Zb,Zc,TT]; try rfl) (by rw [T.c3]; decide) (by rw [T.c3]; rfl) (by simp only [↓DN,Qa,Qb,Qc,Qd,Qe,Qf,Qg,Qh,reduceCtorEq,↓reduceIte,Na,Nb,Nc,Nk,Nf,Ng,Nh,Za,Zb,Zc,TT,asrc,aeval,upd,Nc,↓reduceIte]) h0 (by rw [T.b3]; omega) (by omega) (by simp [List.all_eq_true,intC,AV.one]) (by rw [T.c3]; exact .inl ⟨rfl,rfl,.inr (.inr rfl)⟩) hr.eval hr.st,?_⟩
  rw [T.c3]
  rintro r s1 ⟨ob,cap,rest,rfl,hcap,h63,hrl,hob,rfl⟩
  simp only [↓DM,pval,DX,Nz,↓DN,Qa,Qb,Qc,Qd,Qe,Qf,Qg,Qh,reduceCtorEq,↓reduceIte,Na,Nb,Nc,Nk,Nf,Ng,Nh,Za,Zb,Zc,TT]
  refine jI ?_
  have hob : s.objs ob = none:=by
   rcases hob with h | ⟨_,h⟩
   ·exact h
   ·simp [aeval,upd] at h
  rw [Nat.zero_add,Nat.mul_one] at *
  refine ⟨_,_,AV.weak.refl _,AS.le.refl _,.inr ⟨ob,cap,rest,rfl,AS.set_objs_same _ _ _,by simp,by rw [Nat.mul_one]; exact hrl,hcap,h63⟩,fun o h=>?_,AS.le_set (AS.le.refl s) hob _⟩
  cases h
  exact hob
theorem intsCloneB_calls (l : List Int) (s : AS) (hl : l.length≤2 ^ 42) : ACalls Tryz.prog Γ 210 [intsV l .any] s (fun r s'=>NewBuf s s' r l) :=
 ACalls.anyS (post:=[]) (fun e _=>by obtain rfl : l = []:=List.eq_nil_of_length_eq_zero e; exact intsCloneB_nil s) (intsCloneB_no l s hl)
end Go.Proofs.YtfjlmkifiihgkaaGreatDoor
namespace Go.Proofs.YtfjlmkifiihgkaaGreatDoor
open Go Go.AM Go.Proofs
variable {Γ : Nat→List AV}
theorem nodeCloneB_calls (N : NodeV) (hm : N.name.length≤2 ^ 45) (hp : N.parent.length≤2 ^ 45) (hu : N.unm.length≤2 ^ 42) (s : AS) : ACalls Tryz.prog Γ 143 [.agg N.cells] s (fun r s'=>∃ x,r = .agg (cellsX (N,x))∧NewBuf s s' x N.unm):=by
 refine acalls_body Tryz.func143 rfl Tryz.ntmps143 Tryz.results143 (by simp) ?_
 unfold NodeV.cells
 obtain ⟨k,m,y,pa,u⟩:=N
 simp only at hp hu hm
 refine jS @intsV.eq_1 fun K hK=>?_
 intro o1 ho1 o2 ho2
 have h21 : o2≠o1:=by
  rintro rfl
  simp [AS.set] at ho2
 have h12:=h21.symm
 have h20 : s.objs o2 = none:=by simpa [AS.set,upd,h21] using ho2
 refine hK _ _ ?_;clear hK K
 refine awp_mrk_seq T.mixed [(o1,[.v (.int .i64 k),.sl 1 m.length (m.map byteV) .any,.v (.int .u64 y),.sl 1 pa.length (pa.map byteV) .any,.sl 1 u.length (u.map intC) .any])] [2,5,8] [1,4,7] [10,12,14] (by kernel_rfl) (by simp only [Pres_cons,Pres_nil,and_true]; simp [AS.set,upd,h12,h21]) ?_
 intro K hK
 simp only [↓AXr_nil,↓AXr_cons,gval,lval,fzGet_cons,fzGet_nil,Pres_cons,Pres_nil,List.any_cons,List.any_nil,List.contains_cons,List.contains_nil,Nat.reduceBEq,Bool.or_false,Bool.or_true,Bool.or_self,Bool.false_or,↓DN,Qa,Qb,Qc,Qd,Qe,Qf,Qg,Qh,reduceCtorEq,↓reduceIte,Na,Nb,Nc,Nk,Nf,Ng,Nh,Za,Zb,Zc,TT,h21,h12]
 refine acallk (bytesClone_calls m _ (by omega)) ?_
 rintro r s' ⟨rfl,rfl⟩
 simp only [↓AXq_nil,↓AXq_cons,pval,↓AXr_nil,↓AXr_cons,gval,lval,fzGet_cons,fzGet_nil,Pres_cons,Pres_nil,List.any_cons,List.any_nil,DX,Nat.reduceBEq,↓DN,Qa,Qb,Qc,Qd,Qe,Qf,Qg,Qh,reduceCtorEq,↓reduceIte,Na,Nb,Nc,Nk,Nf,Ng,Nh,Za,Zb,Zc,TT,h21,h12]
 refine acallk (bytesClone_calls pa _ hp) ?_
 rintro r s' ⟨rfl,rfl⟩
 simp only [↓AXq_nil,↓AXq_cons,pval,↓AXr_nil,↓AXr_cons,gval,lval,fzGet_cons,fzGet_nil,Pres_cons,Pres_nil,List.any_cons,List.any_nil,DX,Nat.reduceBEq,↓DN,Qa,Qb,Qc,Qd,Qe,Qf,Qg,Qh,reduceCtorEq,↓reduceIte,Na,Nb,Nc,Nk,Nf,Ng,Nh,Za,Zb,Zc,TT,h21,h12]
 refine acallk (intsCloneB_calls u _ hu) ?_
 rintro r s' ⟨hb,hnew,hle⟩
 have q1 : s'.objs o1 = some [.v (.int .i64 k),.sl 1 m.length (m.map byteV) .any,.v (.int .u64 y),.sl 1 pa.length (pa.map byteV) .any,.sl 1 u.length (u.map intC) .any]:=hle.objs _ _ (by simp [AS.set,upd,h12])
 have q2 : s'.objs o2 = some [.v (.int .i64 0),.v (.slice none 0 0),.v (.int .u64 0),.v (.slice none 0 0),.v (.slice none 0 0)]:=hle.objs _ _ (AS.set_objs_same _ _ _)
 have hs : s.le s':=(AS.le_set (AS.le_set (AS.le.refl s) ho1 _) h20 _).trans hle
 have n1 : onm r≠some o1:=fun e=>by have:=hnew o1 e; simp [AS.set,upd,h12] at this
 have n2 : onm r≠some o2:=fun e=>by have:=hnew o2 e; simp [AS.set] at this
 have n0 : ∀ o,onm r = some o→s.objs o = none:=fun o e=>AS.le_none (AS.le_set (AS.le_set (AS.le.refl s) ho1 _) h20 _) (hnew o e)
 have hone : r.one = true:=by
  rcases hb with ⟨_,_,rfl | rfl | rfl⟩ | ⟨_,_,_,rfl,_⟩ <;> rfl
 have hcell : r.cells = [r]:=by
  rcases hb with ⟨_,_,rfl | rfl | rfl⟩ | ⟨_,_,_,rfl,_⟩ <;> rfl
 unfold AV.cells at hcell
 unfold AV.one at hone
 simp only [↓AXq_nil,↓AXq_cons,pval,↓AXr_nil,↓AXr_cons,gval,lval,fzGet_cons,fzGet_nil,Pres_cons,Pres_nil,List.any_cons,List.any_nil,DX,Nat.reduceBEq,↓DN,Qa,Qb,Qc,Qd,Qe,Qf,Qg,Qh,reduceCtorEq,↓reduceIte,Na,Nb,Nc,Nk,Nf,Ng,Nh,Za,Zb,Zc,TT,q1,q2,hcell,h21,h12,intsV,hone]
 refine hK _ _ ?_;clear hK K
 refine jB (Ai @q1 (Ai @q2 (Ai @hcell (Ai @h21 (Ai @h12 (Ai @intsV.eq_1 @hone)))))) ?_
 refine awp_ret ?_
 refine aends_cell (o:=o2) (off:=0) (by simp only [upd,Nc,↓reduceIte]) (AS.set_objs_same _ _ _) (by rw [T.c69]; decide) (by simp only [↓DN,Qa,Qb,Qc,Qd,Qe,Qf,Qg,Qh,reduceCtorEq,↓reduceIte,Na,Nb,Nc,Nk,Nf,Ng,Nh,Za,Zb,Zc,TT]; rfl) ?_
 refine ⟨_,_,AV.weak.refl _,AS.le.refl _,r,rfl,?_,n0,?_⟩
 ·first | exact ((((hb.set_ne n1).set_ne n1).set_ne n1).set_ne n2) | exact ((hb.set_ne n1).set_ne n2)
 ·first | exact AS.le_set (AS.le_set (AS.le_set (AS.le_set hs ho1 _) ho1 _) ho1 _) h20 _ | exact AS.le_set (AS.le_set hs ho1 _) h20 _
end Go.Proofs.YtfjlmkifiihgkaaGreatDoor
namespace Go.Proofs.YtfjlmkifiihgkaaGreatDoor
open Go Go.AM Go.Proofs
variable {Γ : Nat→List AV}
theorem zrow_quin (a b c d e : AV) : zrow 5 [a,b,c,d,e] = [a,b,c,d,e]:=rfl
theorem TreeO.leR {s0 s s' : AS} {X : AV} {TS : List (NodeV × AV)} (h : TreeO s0 s X TS) (k : s.le s') : TreeO s0 s' X TS :=
 ⟨⟨fun p hp=>(h.xs.buf p hp).le k,h.xs.new,h.xs.sep⟩,h.le.trans k,h.row.le k,h.newR,h.sepR⟩
def NodeW (n : NodeV) : Prop:=n.name.length≤2 ^ 45∧n.parent.length≤2 ^ 45∧n.unm.length≤2 ^ 42
theorem clone20_calls (t : List NodeV) (ht : t.length≤2 ^ 30) (hw : ∀ n ∈ t,NodeW n) (s : AS) : ACalls Tryz.prog Γ 69 [treeV t] s (fun r s'=>∃ TS,TS.map (·.1) = t∧TreeO s s' r TS):=by
 refine acalls_body Tryz.func69 rfl Tryz.ntmps69 Tryz.results69 (by simp) ?_
 have hat:=fun i (h : i < t.length)=>node_at (t:=t) h
 have hnW : ∀ i (h : i < t.length),NodeW (nd t i):=fun i h=>by rw [nd_get h]; exact hw _ (List.getElem_mem h)
 have htk : ∀ i (h : i < t.length),t.take (i + 1) = t.take i ++ [nd t i]:=fun i h=>by rw [List.take_succ_eq_append_getElem h,nd_get h]
 unfold treeV at *
 generalize rowC NodeV.cells t = X at *
 refine jA ?_
 refine jA ?_
 refine wK fun K hK=>?_
 refine jA ?_
 refine awp_block ?_
 refine awp_loop (fun E s2=>∃ (i : Nat) (x : AV) (TS : List (NodeV × AV)),i≤t.length∧E 8 = .v (.int .i64 i)∧E 7 = .v (.int .i64 t.length)∧E 6 = .sl 5 t.length X .any∧E 3 = x∧TS.map (·.1) = t.take i∧TreeO s s2 x TS)
  (fun E _=>match E 8 with | .v (.int _ i)=>t.length - i.toNat | _=>0) ?_ ?_
 ·exact ⟨0,_,[],Nat.zero_le _,by simp only [upd,Nc,↓reduceIte]; rfl,by simp only [upd,Nc,↓reduceIte],by simp only [upd,Nc,↓reduceIte],by simp only [upd,Nc,↓reduceIte]; rfl,rfl,TreeO.nil s⟩
 ·rintro E1 s2 ⟨i,x,TS,hi,g8,g7,g6,g3,hT,hx⟩ -
  by_cases hi' : i < t.length
  ·refine jB (Ai @g8 (Ai @g7 (Ai @eye_lt_nat (decide_eq_true hi')))) ?_
   refine wK fun K2 hK2=>?_
   refine jE ?_
   refine awp_skip ?_
   refine hK2 _ _ ?_;clear hK2 K2
   refine wK fun K3 hK3=>?_
   refine awp_block ?_
   have hat':=hat i hi'
   have hN:=hnW i hi'
   have hstep:=htk i hi'
   generalize nd t i = N at *
   have hTl : TS.length = i:=by have:=congrArg List.length hT; simp at this; omega
   have hge : (0 : Int)≤((i : Nat) : Int):=by omega
   obtain ⟨nk,nm,ny,npa,nu⟩:=N
   unfold NodeV.cells at hat'
   simp only at hat'
   refine awp_reg_frz 5 (by decide) ?_
   intro K hK
   simp only [↓DM,pval,DX,Nz,↓DN,Qa,Qb,Qc,Qd,Qe,Qf,Qg,Qh,reduceCtorEq,↓reduceIte,Na,Nb,Nc,Nk,Nf,Ng,Nh,Za,Zb,Zc,TT,g6,g8,eye_lt_nat,hi',hge,hat',intsV]
   intro o1 h1
   refine hK _ _ o1 _ (by simp only [upd,Nc,↓reduceIte]) h1 ?_
   clear hK K h1
   refine awp_region_at4 rfl (by decide) ?_
   intro ops
   simp only [↓DM,pval,DX,Nz,↓DN,Qa,Qb,Qc,Qd,Qe,Qf,Qg,Qh,reduceCtorEq,↓reduceIte,Na,Nb,Nc,Nk,Nf,Ng,Nh,Za,Zb,Zc,TT,g3]
   refine acallk (nodeCloneB_calls ⟨nk,nm,ny,npa,nu⟩ hN.1 hN.2.1 hN.2.2 _) ?_
   rintro r s3 ⟨xn,rfl,hb,hnew,hle3⟩
   unfold cellsX at *
   simp only [↓DM,pval,DX,Nz,↓DN,Qa,Qb,Qc,Qd,Qe,Qf,Qg,Qh,reduceCtorEq,↓reduceIte,Na,Nb,Nc,Nk,Nf,Ng,Nh,Za,Zb,Zc,TT,g3,zrow_quin]
   have hs0 : s2.le s3:=hle3
   have hrow : OBuf 5 s3 x i (rowC cellsX TS):=by
    have:=hx.row.le hle3
    rwa [hTl] at this
   have hone : xn.one = true:=by
    rcases hb with ⟨_,_,rfl | rfl | rfl⟩ | ⟨_,_,_,rfl,_⟩ <;> rfl
   refine ⟨_,fun G a w hr=>append_own_res (n:=i) (m:=1) (cs:=rowC cellsX TS) (ds:=cellsX (⟨nk,nm,ny,npa,nu⟩,xn)) (e:=69) rfl Tryz.underlying26 (by simp only [↓DN,Qa,Qb,Qc,Qd,Qe,Qf,Qg,Qh,reduceCtorEq,↓reduceIte,Na,Nb,Nc,Nk,Nf,Ng,Nh,Za,Zb,Zc,TT]; try rfl) T.z69 (by rw [T.c69]; decide) (by rw [T.c69]; rfl) (by rw [T.c69]; simp only [↓DN,Qa,Qb,Qc,Qd,Qe,Qf,Qg,Qh,reduceCtorEq,↓reduceIte,Na,Nb,Nc,Nk,Nf,Ng,Nh,Za,Zb,Zc,TT,asrc,aeval,upd,Nc,↓reduceIte]; rfl) (by decide) (by rw [T.b69]; omega) (by omega) (by simp only [cellsX,List.all_cons,List.all_nil,hone]; rfl) (by rw [T.c69]; exact hrow) hr.eval hr.st,?_⟩
   rw [T.c69]
   rintro r s4 ⟨ob,cap,rest,rfl,hcap,h63,hrl,hob,rfl⟩
   have hob' : s3.objs ob = none∨∃ cap0,x = .osl ob 0 5 TS.length cap0:=by
    rw [hTl]; exact hob
   have hpush:=(TreeO.leR hx hle3).push (p:=(⟨nk,nm,ny,npa,nu⟩,xn)) (ob:=ob) (cap:=cap) (rest:=rest) hb
    (fun o ho=>⟨AS.le_none hx.le (hnew o ho),(fun q hq e=>by obtain ⟨ds,hd⟩:=(hx.xs.buf q hq).some e; rw [hnew o ho] at hd; cases hd),(fun e=>by obtain ⟨ds,hd⟩:=hx.row.some e; rw [hnew o ho] at hd; cases hd)⟩)
    hob' (by rw [hTl]; exact hcap) h63 (by rw [hTl]; exact hrl)
   rw [hTl,List.append_assoc] at hpush
   refine jV @g3 hK3 ?_;clear hK3 K3
   refine jD (Ai @g8 (eye_succM i (by omega))) ?_
   refine ⟨⟨i + 1,.osl ob 0 5 (i + 1) cap,TS ++ [(⟨nk,nm,ny,npa,nu⟩,xn)],by omega,by simp only [upd,Nc,↓reduceIte],by simp only [upd,g7,Nc,↓reduceIte],by simp only [upd,g6,Nc,↓reduceIte],by simp only [upd,Nc,↓reduceIte],by rw [List.map_append,hT,hstep]; rfl,hpush⟩,?_⟩
   simp only [g8,upd,↓reduceIte]
   omega
  ·refine jB (Ai @g8 (Ai @g7 (Ai @eye_lt_nat (decide_eq_false hi')))) ?_
   refine wK fun K2 hK2=>?_
   refine jF ?_
   refine awp_exit ?_
   simp only [thenQ,blockQ,if_true]
   refine hK _ _ ?_;clear hK hK2 K2 K
   obtain rfl : i = t.length:=by omega
   refine jB @g3 ?_
   refine jI ?_
   exact ⟨_,_,AV.weak.refl _,AS.le.refl _,TS,by rw [hT,List.take_length],hx⟩
end Go.Proofs.YtfjlmkifiihgkaaGreatDoor
namespace Go.Proofs.YtfjlmkifiihgkaaGreatDoor
open Go Go.AM Go.Proofs
variable {Γ : Nat→List AV}
def renI : Go.Shelf.Ren:=⟨fun | 21=>132 | 27=>207 | 28=>208 | 35=>248 | 39=>260 | n=>n,fun | 22=>39 | n=>n,fun n=>n⟩
theorem laysI : Lays2.n21 Tryz.prog renI where
  mixed:=by kernel_rfl
  f21:=(Tryz.func132).trans (congrArg some (by kernel_rfl))
  f27:=(Tryz.func207).trans (congrArg some (by kernel_rfl))
  f28:=(Tryz.func208).trans (congrArg some (by kernel_rfl))
  f35:=(Tryz.func248).trans (congrArg some (by kernel_rfl))
  f39:=(Tryz.func260).trans (congrArg some (by kernel_rfl))
  t0:=Tryz.underlying0
  a0:=Tryz.isAgg0
  z0:=Tryz.sizeOf0
  v0:=Tryz.zeroValue0
  t3:=Tryz.underlying3
  a3:=Tryz.isAgg3
  z3:=Tryz.sizeOf3
  v3:=Tryz.zeroValue3
  t4:=Tryz.underlying4
  a4:=Tryz.isAgg4
  z4:=Tryz.sizeOf4
  v4:=Tryz.zeroValue4
  t22:=Tryz.underlying39
  a22:=Tryz.isAgg39
  z22:=Tryz.sizeOf39
  v22:=Tryz.zeroValue39
  i3:=by kernel_rfl
def renS : Go.Shelf.Ren:=⟨fun | 25=>131 | 31=>205 | 32=>206 | 37=>247 | n=>n,fun | 22=>39 | 40=>219 | n=>n,fun n=>n⟩
theorem laysS : Lays2.n25 Tryz.prog renS where
  mixed:=by kernel_rfl
  f25:=(Tryz.func131).trans (congrArg some (by kernel_rfl))
  f31:=(Tryz.func205).trans (congrArg some (by kernel_rfl))
  f32:=(Tryz.func206).trans (congrArg some (by kernel_rfl))
  f37:=(Tryz.func247).trans (congrArg some (by kernel_rfl))
  t0:=Tryz.underlying0
  a0:=Tryz.isAgg0
  z0:=Tryz.sizeOf0
  v0:=Tryz.zeroValue0
  t3:=Tryz.underlying3
  a3:=Tryz.isAgg3
  z3:=Tryz.sizeOf3
  v3:=Tryz.zeroValue3
  t4:=Tryz.underlying4
  a4:=Tryz.isAgg4
  z4:=Tryz.sizeOf4
  v4:=Tryz.zeroValue4
  t22:=Tryz.underlying39
  a22:=Tryz.isAgg39
  z22:=Tryz.sizeOf39
  v22:=Tryz.zeroValue39
  t40:=Tryz.underlying219
  a40:=Tryz.isAgg219
  z40:=Tryz.sizeOf219
  v40:=Tryz.zeroValue219
theorem search20_calls {x : AV} {l : List Int} (v : Int) (hl : l.length < 2 ^ 62) (hs : l.Pairwise (·≤·)) {s : AS} (hb : OBuf 1 s x l.length (l.map intC)) :
    ACalls Tryz.prog Γ 131 [x,.v (.int .i64 v)] s (fun r s'=>r = .tup [.v (.int .i64 ((l.countP (· < v) : Nat) : Int)),.v (.bool (l.contains v))]∧s' = s) :=
  search_calls laysS v hl hs hb
end Go.Proofs.YtfjlmkifiihgkaaGreatDoor
namespace Go.Proofs.YtfjlmkifiihgkaaGreatDoor
open Go Go.AM Go.Proofs
variable {Γ : Nat→List AV}
theorem memberO_calls {sa s : AS} {X : AV} {TS : List (NodeV × AV)} (h : TreeO sa s X TS) (ht : TS.length≤2 ^ 61) (i : Int) : ACalls Tryz.prog Γ 84 [X,.v (.int .i64 i)] s (fun r s'=>r = .v (.bool (decide (memI (TS.map (·.1)) i)))∧s' = s) :=
  ACalls.view ((member_calls (Γ:=Γ0) (TS.map (·.1)) (by simpa using ht) i s0).mono fun r s' h=>h.1) (.cons h.view (.cons .val .nil))
theorem leavesO_calls {sa s : AS} {X : AV} {TS : List (NodeV × AV)} (h : TreeO sa s X TS) (ht : TS.length≤2 ^ 61) : ACalls Tryz.prog Γ 82 [X] s (fun r s'=>r = .v (.int .i64 (lvs (TS.map (·.1))))∧s' = s) :=
  ACalls.view ((leaves_calls (Γ:=Γ0) (TS.map (·.1)) (by simpa using ht) s0).mono fun r s' h=>h.1) (.cons h.view .nil)
theorem membersO_calls {sa s : AS} {X : AV} {TS : List (NodeV × AV)} (h : TreeO sa s X TS) (ht : TS.length≤2 ^ 61) (a k : Nat) (hak : a + k < 2 ^ 61) : ACalls Tryz.prog Γ 86 [X,.v (.int .i64 a),.v (.int .i64 (((a + k : Nat) : Int) - 1))] s (fun r s'=>r = .v (.int .i64 (cntN (memI (TS.map (·.1))) a k))∧s' = s) :=
  ACalls.view ((members_calls (Γ:=Γ0) (TS.map (·.1)) (by simpa using ht) a k hak s0).mono fun r s' h=>h.1) (.cons h.view (.cons .val (.cons .val .nil)))
end Go.Proofs.YtfjlmkifiihgkaaGreatDoor
namespace Go.Proofs.YtfjlmkifiihgkaaGreatDoor
open Go Go.AM Go.Proofs
variable {Γ : Nat→List AV}
theorem leafOf20_calls (name : List UInt8) (key : Nat) (hn : name.length≤2 ^ 45) (s : AS) : ACalls Tryz.prog Γ 56 [bytesV name .any,.v (.int .u64 key)] s (fun r s'=>r = .agg (leafN name key).cells∧s' = s):=by
 refine acalls_body Tryz.func56 rfl Tryz.ntmps56 Tryz.results56 (by simp) ?_
 have hc:=fun s=>bytesClone_calls (Γ:=Γ) name s hn
 unfold bytesV at *
 refine wS fun K hK=>?_
 simp only [↓DN,Qa,Qb,Qc,Qd,Qe,Qf,Qg,Qh,reduceCtorEq,↓reduceIte,Na,Nb,Nc,Nk,Nf,Ng,Nh,Za,Zb,Zc,TT]
 intro o ho
 refine hK _ _ ?_;clear hK K
 refine wS fun K hK=>?_
 simp only [↓DN,Qa,Qb,Qc,Qd,Qe,Qf,Qg,Qh,reduceCtorEq,↓reduceIte,Na,Nb,Nc,Nk,Nf,Ng,Nh,Za,Zb,Zc,TT]
 refine acallk (hc _) ?_
 rintro r s1 ⟨rfl,rfl⟩
 simp only [↓DM,pval,DX,Nz,↓DN,Qa,Qb,Qc,Qd,Qe,Qf,Qg,Qh,reduceCtorEq,↓reduceIte,Na,Nb,Nc,Nk,Nf,Ng,Nh,Za,Zb,Zc,TT]
 refine hK _ _ ?_;clear hK K
 refine awp_ret ?_
 refine aends_cell (o:=o) (off:=0) (by simp only [upd,Nc,↓reduceIte]) (AS.set_objs_same _ _ _) (by rw [T.c69]; decide) (by simp only [↓DN,Qa,Qb,Qc,Qd,Qe,Qf,Qg,Qh,reduceCtorEq,↓reduceIte,Na,Nb,Nc,Nk,Nf,Ng,Nh,Za,Zb,Zc,TT]; rfl) ?_
 exact ⟨_,s,AV.weak_agg (.cons (AV.weak.refl _) (.cons (AV.weak.refl _) (.cons (AV.weak.refl _) (.cons AV.weak_nil (.cons AV.weak_nil .nil))))),AS.le_set (AS.le.refl s) ho _,rfl,rfl⟩
theorem new20_calls (name : List UInt8) (key : Nat) (hn : name.length≤2 ^ 45) (s : AS) : ACalls Tryz.prog Γ 11 [bytesV name .any,.v (.int .u64 key)] s
  (fun r s'=>r = (if (leafN name key).right then .tup [treeV [leafN name key],.v (.int .i64 0)] else .tup [nilS,.v (.int .i64 2)])∧s' = s):=by
 by_cases h : (leafN name key).right
 ·rw [if_pos h]
  refine acalls_body Tryz.func11 rfl Tryz.ntmps11 Tryz.results11 (by simp) ?_
  have hc:=fun s=>leafOf20_calls (Γ:=Γ) name key hn s
  have hr:=fun s=>nodeRight_calls (Γ:=Γ) (leafN name key) (by simp [leafN]) s
  have hcells : (leafN name key).cells = [.v (.int .i64 1),bytesV name .any,.v (.int .u64 key),bytesV [] .any,intsV [] .any]:=rfl
  have htree : treeV [leafN name key] = .sl 5 1 [.v (.int .i64 1),bytesV name .any,.v (.int .u64 key),bytesV [] .any,intsV [] .any] .any:=rfl
  rw [htree]
  rw [hcells] at hc hr
  generalize leafN name key = N at *
  unfold bytesV intsV at *
  refine jA ?_
  refine awp_reg_frz 6 (by decide) ?_
  intro K hK
  simp only [↓DM,pval,DX,Nz,↓DN,Qa,Qb,Qc,Qd,Qe,Qf,Qg,Qh,reduceCtorEq,↓reduceIte,Na,Nb,Nc,Nk,Nf,Ng,Nh,Za,Zb,Zc,TT]
  refine acallk (hc _) ?_
  rintro r s1 ⟨rfl,rfl⟩
  simp only [↓DM,pval,DX,Nz,↓DN,Qa,Qb,Qc,Qd,Qe,Qf,Qg,Qh,reduceCtorEq,↓reduceIte,Na,Nb,Nc,Nk,Nf,Ng,Nh,Za,Zb,Zc,TT]
  intro o ho
  refine hK _ _ o _ (by simp only [upd,Nc,↓reduceIte]) ho ?_
  clear hK K ho
  refine wK fun K hK=>?_
  refine jQ fun K hK=>?_
  refine acallk (hr _) ?_
  rintro r s2 ⟨rfl,rfl⟩
  rw [decide_eq_true h]
  refine jR hK ?_;clear hK K
  refine jF ?_
  refine awp_skip ?_
  refine hK _ _ ?_;clear hK K
  refine jB @zrow_quin ?_
  refine jI ?_
  exact ⟨_,_,AV.weak_tup2 AV.weak_any (AV.weak.refl _),AS.le.refl _,rfl,rfl⟩
 ·rw [if_neg h]
  refine acalls_body Tryz.func11 rfl Tryz.ntmps11 Tryz.results11 (by simp) ?_
  have hc:=fun s=>leafOf20_calls (Γ:=Γ) name key hn s
  have hr:=fun s=>nodeRight_calls (Γ:=Γ) (leafN name key) (by simp [leafN]) s
  have hcells : (leafN name key).cells = [.v (.int .i64 1),bytesV name .any,.v (.int .u64 key),bytesV [] .any,intsV [] .any]:=rfl
  have htree : treeV [leafN name key] = .sl 5 1 [.v (.int .i64 1),bytesV name .any,.v (.int .u64 key),bytesV [] .any,intsV [] .any] .any:=rfl
  clear htree
  rw [hcells] at hc hr
  generalize leafN name key = N at *
  unfold bytesV intsV at *
  refine jA ?_
  refine awp_reg_frz 6 (by decide) ?_
  intro K hK
  simp only [↓DM,pval,DX,Nz,↓DN,Qa,Qb,Qc,Qd,Qe,Qf,Qg,Qh,reduceCtorEq,↓reduceIte,Na,Nb,Nc,Nk,Nf,Ng,Nh,Za,Zb,Zc,TT]
  refine acallk (hc _) ?_
  rintro r s1 ⟨rfl,rfl⟩
  simp only [↓DM,pval,DX,Nz,↓DN,Qa,Qb,Qc,Qd,Qe,Qf,Qg,Qh,reduceCtorEq,↓reduceIte,Na,Nb,Nc,Nk,Nf,Ng,Nh,Za,Zb,Zc,TT]
  intro o ho
  refine hK _ _ o _ (by simp only [upd,Nc,↓reduceIte]) ho ?_
  clear hK K ho
  refine wK fun K hK=>?_
  refine jQ fun K hK=>?_
  refine acallk (hr _) ?_
  rintro r s2 ⟨rfl,rfl⟩
  rw [decide_eq_false h]
  refine jR hK ?_;clear hK K
  refine jE ?_
  refine jA ?_
  exact jJ
end Go.Proofs.YtfjlmkifiihgkaaGreatDoor
namespace Go.AM
open Go
def goodL (L : Nat) (t : List NodeV) : Prop:=Fit L∧t.length = 2 * L - 1 ∧
    (∀ i,i < 2 * L - 1→(nd t i).right∧((nd t i).kind = 0∨((nd t i).kind = 1↔i % 2 = 0))∧∀ u ∈ (nd t i).unm,(lo i : Int)≤u∧u≤(hi i : Int)∧0≤u∧u < (L : Int)∧(nd t (2 * u.toNat)).kind = 1) ∧
    (∀ a b,a < b→b < L→(nd t (2 * a)).kind = 1→(nd t (2 * b)).kind = 1→(nd t (2 * b)).name≠(nd t (2 * a)).name)
theorem rightT.good {t : List NodeV} (h : rightT t) : goodL (lvs t) t∧(lvs t = 1∨∃ j,lvs t / 2≤j∧j < lvs t∧(Go.AM.nd t (2 * j)).kind = 1):=by
  obtain ⟨h1,h2⟩:=h.len
  obtain ⟨k1,k2,k3⟩:=(rightT_iff h2 h1).1 h
  exact ⟨⟨h2,h1,k1,k2⟩,k3⟩
theorem goodL.right {t : List NodeV} {L : Nat} (h : goodL L t) (k : L = 1∨∃ j,L / 2≤j∧j < L∧(nd t (2 * j)).kind = 1) : rightT t :=
  (rightT_iff h.1 h.2.1).2 ⟨h.2.2.1,h.2.2.2,k⟩
theorem goodL.lvs {t : List NodeV} {L : Nat} (h : goodL L t) : lvs t = L:=lvs_of h.1 h.2.1
theorem unm_branch {N : NodeV} (h : N.right) {u : Int} (hu : u ∈ N.unm) : N.kind = 2:=by
  rcases node_kind h with hk | hk | hk
  · rw [(right_zero hk).1 h] at hu; cases hu
  · have:=((right_one hk).1 h).2.2.2
    rw [List.eq_nil_of_length_eq_zero this] at hu; cases hu
  · exact hk
theorem moreT_shape {t : List NodeV} {L : Nat} (hL : Fit L) (hlen : t.length = 2 * L - 1) {v : Nat} (hv : v≤L) (h32 : v≠32) :
    ∃ L',L' = (if v = L then 2 * L else L)∧Fit L'∧(moreT t v).length = 2 * L' - 1∧v < L'∧lvs (moreT t v) = L'∧L≤L':=by
  have hl:=lvs_of hL hlen
  have hb:=hL.le
  refine ⟨_,rfl,?_⟩
  have key : Fit (if v = L then 2 * L else L)∧(moreT t v).length = 2 * (if v = L then 2 * L else L) - 1:=by
    unfold moreT
    rw [hl]
    split
    · rename_i e
      refine ⟨?_,by simp; omega⟩
      rw [e] at h32
      unfold Fit at hL ⊢
      omega
    · exact ⟨hL,hlen⟩
  refine ⟨key.1,key.2,?_,lvs_of key.1 key.2,?_⟩
  · split <;> omega
  · split <;> omega
theorem freeT_le {t : List NodeV} : freeT t≤lvs t:=(freeT_spec t).1
theorem free_kind {t : List NodeV} {L : Nat} (hL : Fit L) (hlen : t.length = 2 * L - 1) : (nd t (2 * freeT t)).kind≠1:=by
  have hl:=lvs_of hL hlen
  obtain ⟨h1,h2,_⟩:=freeT_spec t
  rw [hl] at h1
  intro hk
  by_cases e : freeT t < L
  · exact h2 ((memN_iff hl _).2 ⟨e,hk⟩)
  · rw [nd_out (by omega)] at hk
    cases hk
theorem named_none {t : List NodeV} {name : List UInt8} (h : ¬ 0≤namedI t name 0) {L : Nat} (hL : Fit L) (hlen : t.length = 2 * L - 1) {j : Nat} (hj : j < L) (hk : (nd t (2 * j)).kind = 1) : (nd t (2 * j)).name≠name:=by
  intro e
  have hl:=lvs_of hL hlen
  have hb:=hL.le
  have h1:=firstN_ge (fun j=>decide (memI t j∧(nd t (2 * j)).name = name)) (hlf t - 0) 0
  have h2 : decide (0≤namedI t name 0) = true:=h1.2 ⟨j,Nat.zero_le _,by unfold hlf; omega,decide_eq_true ⟨(memN_iff hl _).2 ⟨hj,hk⟩,e⟩⟩
  exact h (of_decide_eq_true h2)
theorem addAt_nd {t : List NodeV} {L : Nat} (hL : Fit L) (hlen : t.length = 2 * L - 1) {v : Nat} (hv : v≤L) (h32 : v≠32) (n : NodeV) (i : Nat) :
    nd (addAt t v n) i = if i = 2 * v then n else if i ∈ pathL v (lvs (moreT t v))∧(nd t i).kind = 2 then insN (nd t i) v else nd t i:=by
  obtain ⟨L',_,q2,q3,q4,q5,_⟩:=moreT_shape hL hlen hv h32
  unfold addAt
  rw [q5]
  have hp:=fun x hx=>path_mem q2 q4 x hx
  have hx : nd ((moreT t v).set (2 * v) n) i = if i = 2 * v then n else nd t i:=by
    rw [nd_set,nd_more]
    by_cases e : i = 2 * v
    · rw [if_pos ⟨e.symm,by omega⟩,if_pos e]
    · rw [if_neg (fun q=>e q.1.symm),if_neg e]
  rw [putsU_nd v _ _ (path_nodup q2 q4) (fun u hu=>by rw [List.length_set,q3]; exact (hp u hu).1),hx]
  by_cases e : i = 2 * v
  · rw [if_pos e,if_pos e,if_neg]
    intro q
    have:=(hp _ q.1).2.1
    omega
  · rw [if_neg e,if_neg e]
theorem addAt_len {t : List NodeV} (v : Nat) (n : NodeV) : (addAt t v n).length = (moreT t v).length:=by
  unfold addAt
  rw [putsU_len,List.length_set]
theorem addAt_right {t : List NodeV} (h : rightT t) {n : NodeV} (hn : n.right) (hk : n.kind = 1) (hname : ¬ 0≤namedI t n.name 0) (h32 : freeT t≠32) : rightT (addAt t (freeT t) n):=by
  obtain ⟨⟨hL,hlen,h1,h2⟩,h3⟩:=h.good
  have hfr:=freeT_le (t:=t)
  have hfk:=free_kind hL hlen
  have hnn:=fun {j : Nat}=>named_none hname hL hlen (j:=j)
  generalize freeT t = v at *
  generalize lvs t = L at *
  obtain ⟨L',q1,q2,q3,q4,q5,q6⟩:=moreT_shape hL hlen hfr h32
  have hnd:=addAt_nd hL hlen hfr h32 n
  rw [q5] at hnd
  have hlen':=addAt_len (t:=t) v n
  rw [q3] at hlen'
  generalize addAt t v n = T at *
  have hp:=fun u=>path_iff q2 q4 u
  have heven : ∀ j,j≠v→nd T (2 * j) = nd t (2 * j):=by
    intro j hj
    rw [hnd,if_neg (by omega),if_neg]
    intro q
    have:=((hp _).1 q.1).2.1
    omega
  have hvn : nd T (2 * v) = n:=by rw [hnd,if_pos rfl]
  have hkept : ∀ j,(nd t (2 * j)).kind = 1→(nd T (2 * j)).kind = 1:=by
    intro j hj
    rw [heven j (fun e=>hfk (by rw [← e]; exact hj))]
    exact hj
  have hold : ∀ i,(nd t i).kind≠0→i < 2 * L - 1:=by
    intro i hi
    by_cases e : i < 2 * L - 1
    · exact e
    · rw [nd_out (by omega)] at hi
      exact absurd rfl hi
  have hunm : ∀ i,∀ u ∈ (nd t i).unm,(lo i : Int)≤u∧u≤(hi i : Int)∧0≤u∧u < (L' : Int)∧(nd T (2 * u.toNat)).kind = 1:=by
    intro i u hu
    by_cases e : i < 2 * L - 1
    · obtain ⟨a1,a2,a3,a4,a5⟩:=(h1 i e).2.2 u hu
      exact ⟨a1,a2,a3,by omega,hkept _ a5⟩
    · rw [nd_out (by omega)] at hu
      cases hu
  have hright : ∀ i,(nd t i).right∧((nd t i).kind = 0∨((nd t i).kind = 1↔i % 2 = 0)):=by
    intro i
    by_cases e : i < 2 * L - 1
    · exact ⟨(h1 i e).1,(h1 i e).2.1⟩
    · rw [nd_out (by omega)]
      exact ⟨nought_right,.inl rfl⟩
  refine (rightT_iff q2 hlen').2 ⟨fun i hi'=>?_,fun a b hab hbL ha hb=>?_,?_⟩
  · rw [hnd i]
    by_cases e : i = 2 * v
    · rw [if_pos e]
      refine ⟨hn,.inr ⟨fun _=>by omega,fun _=>hk⟩,fun u hu=>?_⟩
      have:=unm_branch hn hu
      omega
    · rw [if_neg e]
      by_cases e2 : i ∈ pathL v L'∧(nd t i).kind = 2
      · rw [if_pos e2]
        obtain ⟨r1,r2⟩:=hright i
        have hpi:=(hp i).1 e2.1
        have h2':=(right_two e2.2).1 r1
        have hvu : (v : Int) ∉ (nd t i).unm:=by
          intro hm
          have:=((h1 i (hold i (by omega))).2.2 _ hm).2.2.2.2
          rw [Int.toNat_natCast] at this
          exact hfk this
        refine ⟨(right_two (show (insN (nd t i) v).kind = 2 from e2.2)).2 ⟨h2'.1,h2'.2.1,insU_rising h2'.2.2 hvu ?_⟩,r2,fun u hu=>?_⟩
        · have:=q2.le; omega
        · rcases (mem_insU _ _ _).1 hu with rfl | hu
          · refine ⟨by omega,by omega,by omega,by omega,?_⟩
            rw [Int.toNat_natCast,hvn]
            exact hk
          · exact hunm i u hu
      · rw [if_neg e2]
        exact ⟨(hright i).1,(hright i).2,hunm i⟩
  · by_cases ea : a = v
    · rw [ea,hvn]
      rw [heven b (by omega)] at hb ⊢
      exact hnn (by have:=hold _ (show (nd t (2 * b)).kind≠0 by omega); omega) hb
    · rw [heven a ea] at ha ⊢
      by_cases eb : b = v
      · rw [eb,hvn]
        intro e
        exact hnn (j:=a) (by have:=hold _ (show (nd t (2 * a)).kind≠0 by omega); omega) ha e.symm
      · rw [heven b eb] at hb ⊢
        exact h2 a b hab (by have:=hold _ (show (nd t (2 * b)).kind≠0 by omega); omega) ha hb
  · by_cases e : v = L
    · right
      rw [if_pos e] at q1
      exact ⟨v,by omega,q4,by rw [hvn]; exact hk⟩
    · rw [if_neg e] at q1
      subst q1
      rcases h3 with h3 | ⟨j,a1,a2,a3⟩
      · exact .inl h3
      · exact .inr ⟨j,a1,a2,hkept j a3⟩
def blankL (l : List Nat) (t : List NodeV) : List NodeV:=l.foldl (fun t u=>t.set u NodeV.nought) t
def blankT (t : List NodeV) (leaf : Nat) : List NodeV:=blankL (pathL leaf (lvs t)) t
theorem blankL_len : ∀ (l : List Nat) (t : List NodeV),(blankL l t).length = t.length
  | [],_=>rfl
  | x :: l,t=>by
    have:=blankL_len l (t.set x NodeV.nought)
    rw [List.length_set] at this
    exact this
theorem blankL_nd : ∀ (l : List Nat) (t : List NodeV) (j : Nat),nd (blankL l t) j = if j ∈ l then NodeV.nought else nd t j
  | [],t,j=>by simp [blankL]
  | x :: l,t,j=>by
    have ih:=blankL_nd l (t.set x NodeV.nought) j
    have e : blankL (x :: l) t = blankL l (t.set x NodeV.nought):=rfl
    rw [e,ih]
    by_cases h : j ∈ l
    · rw [if_pos h,if_pos (List.mem_cons_of_mem _ h)]
    · rw [if_neg h,nd_set]
      by_cases h2 : x = j
      · rw [if_pos (show j ∈ x :: l by rw [h2]; exact List.mem_cons_self)]
        by_cases h3 : x < t.length
        · rw [if_pos ⟨h2,h3⟩]
        · rw [if_neg (fun q=>h3 q.2),nd_out (by omega)]
      · rw [if_neg (fun q=>h2 q.1),if_neg]
        rw [List.mem_cons]
        rintro (q | q)
        · exact h2 q.symm
        · exact h q
def putT (t : List NodeV) (leaf : Nat) (n : NodeV) : List NodeV:=(blankT t leaf).set (2 * leaf) n
theorem putT_len (t : List NodeV) (leaf : Nat) (n : NodeV) : (putT t leaf n).length = t.length:=by
  unfold putT blankT
  rw [List.length_set,blankL_len]
theorem putT_nd {t : List NodeV} {L : Nat} (hL : Fit L) (hlen : t.length = 2 * L - 1) {leaf : Nat} (hl : leaf < L) (n : NodeV) (i : Nat) :
    nd (putT t leaf n) i = if i = 2 * leaf then n else if i ∈ pathL leaf L then NodeV.nought else nd t i:=by
  unfold putT blankT
  rw [lvs_of hL hlen,nd_set,blankL_nd,blankL_len]
  by_cases e : i = 2 * leaf
  · rw [if_pos ⟨e.symm,by omega⟩,if_pos e]
  · rw [if_neg (fun q=>e q.1.symm),if_neg e]
theorem putT_good {t : List NodeV} {L : Nat} (h : goodL L t) {leaf : Nat} (hl : leaf < L) {n : NodeV} (hn : n.right) (hk : n.kind = 0∨(n.kind = 1∧(nd t (2 * leaf)).kind = 1∧n.name = (nd t (2 * leaf)).name)) : goodL L (putT t leaf n):=by
  obtain ⟨hL,hlen,h1,h2⟩:=h
  have hnd:=putT_nd hL hlen hl n
  have hlen':=putT_len t leaf n
  rw [hlen] at hlen'
  generalize putT t leaf n = T at *
  have hp:=fun u=>path_iff hL hl u
  have heven : ∀ j,j≠leaf→nd T (2 * j) = nd t (2 * j):=by
    intro j hj
    rw [hnd,if_neg (by omega),if_neg]
    intro q
    have:=((hp _).1 q).2.1
    omega
  have hvn : nd T (2 * leaf) = n:=by rw [hnd,if_pos rfl]
  have hkind : ∀ a,(nd T (2 * a)).kind = 1→(nd t (2 * a)).kind = 1∧(nd T (2 * a)).name = (nd t (2 * a)).name:=by
    intro a ha
    by_cases e : a = leaf
    · rw [e,hvn] at ha ⊢
      rcases hk with hk | hk
      · omega
      · exact ⟨hk.2.1,hk.2.2⟩
    · rw [heven a e] at ha ⊢
      exact ⟨ha,rfl⟩
  refine ⟨hL,hlen',fun i hi'=>?_,fun a b hab hbL ha hb=>?_⟩
  · rw [hnd i]
    by_cases e : i = 2 * leaf
    · rw [if_pos e]
      refine ⟨hn,?_,fun u hu=>?_⟩
      · rcases hk with hk | hk
        · exact .inl hk
        · exact .inr ⟨fun _=>by omega,fun _=>hk.1⟩
      · have:=unm_branch hn hu
        omega
    · rw [if_neg e]
      by_cases e2 : i ∈ pathL leaf L
      · rw [if_pos e2]
        exact ⟨nought_right,.inl rfl,fun u hu=>by cases hu⟩
      · rw [if_neg e2]
        obtain ⟨a1,a2,a3⟩:=h1 i hi'
        refine ⟨a1,a2,fun u hu=>?_⟩
        obtain ⟨b1,b2,b3,b4,b5⟩:=a3 u hu
        refine ⟨b1,b2,b3,b4,?_⟩
        rw [heven _ (fun q=>e2 ((hp i).2 ⟨hi',?_,by omega,by omega⟩))]
        · exact b5
        · have hk2:=unm_branch a1 hu
          rcases a2 with a2 | a2
          · omega
          · have : ¬ i % 2 = 0:=fun q=>by have:=a2.2 q; omega
            omega
  · obtain ⟨c1,c2⟩:=hkind a ha
    obtain ⟨d1,d2⟩:=hkind b hb
    rw [c2,d2]
    exact h2 a b hab hbL c1 d1
def keyR (key : Nat) : Prop:=2≤(key : Int)∧(key : Int)≤2305843009213693949
instance (key : Nat) : Decidable (keyR key):=by unfold keyR; infer_instance
def updT (t : List NodeV) (leaf key : Nat) : List NodeV:=putT t leaf (leafN (nd t (2 * leaf)).name key)
def updR (t : List NodeV) (leaf : Int) (key : Nat) : List NodeV × Int :=
  if ¬ rightT t then ([],40) else if ¬ memI t leaf then ([],43) else if ¬ keyR key then ([],2) else (updT t leaf.toNat key,0)
theorem updT_right {t : List NodeV} (h : rightT t) {leaf : Nat} (hm : memI t (leaf : Int)) {key : Nat} (hk : (leafN (nd t (2 * leaf)).name key).right) : rightT (updT t leaf key):=by
  obtain ⟨hg,h3⟩:=h.good
  have hl:=(memN_iff rfl _).1 hm
  refine (putT_good hg hl.1 hk (.inr ⟨rfl,hl.2,rfl⟩)).right ?_
  rcases h3 with h3 | ⟨j,a1,a2,a3⟩
  · exact .inl h3
  · refine .inr ⟨j,a1,a2,?_⟩
    rw [putT_nd hg.1 hg.2.1 hl.1]
    by_cases e : j = leaf
    · rw [if_pos (by omega)]; rfl
    · rw [if_neg (by omega),if_neg]
      · exact a3
      · intro q
        have:=((path_iff hg.1 hl.1 _).1 q).2.1
        omega
def cutT (t : List NodeV) : List NodeV:=t.take (2 * (lvs t / 2) - 1)
def shrT : Nat→List NodeV→List NodeV
  | 0,t=>t
  | f + 1,t=>if 1 < lvs t∧cntN (memI t) (lvs t / 2) (lvs t - lvs t / 2) = 0 then shrT f (cutT t) else t
theorem cut_good {t : List NodeV} {m : Nat} (h : goodL (2 ^ (m + 1)) t) (h0 : cntN (memI t) (2 ^ (m + 1) / 2) (2 ^ (m + 1) - 2 ^ (m + 1) / 2) = 0) : goodL (2 ^ m) (cutT t):=by
  have hl:=h.lvs
  obtain ⟨hL,hlen,h1,h2⟩:=h
  have hpow : 2 ^ (m + 1) = 2 * 2 ^ m:=by rw [Nat.pow_succ]; omega
  have hpos:=Nat.two_pow_pos m
  have hb:=hL.le
  have hM : Fit (2 ^ m):=fit_pow (by
    by_cases e : m≤5
    · exact e
    · have : 2 ^ 6≤2 ^ m:=Nat.pow_le_pow_right (by omega) (by omega)
      omega)
  unfold cutT
  rw [hl]
  generalize hQ : 2 ^ m = M at *
  rw [hpow] at hlen h1 h2 h0 hl hb
  have e1 : 2 * M / 2 = M:=by omega
  rw [hpow,e1]
  rw [e1] at h0
  have hnone : ∀ j,M≤j→j < 2 * M→(nd t (2 * j)).kind≠1:=by
    intro j a b c
    have : 0 < cntN (memI t) M (2 * M - M):=cntN_pos.2 ⟨j - M,by omega,by rw [show M + (j - M) = j by omega]; exact (memN_iff hl _).2 ⟨b,c⟩⟩
    omega
  have hnd : ∀ i,i < 2 * M - 1→nd (t.take (2 * M - 1)) i = nd t i:=by
    intro i hi'
    unfold nd
    rw [List.getD_eq_getElem?_getD,List.getD_eq_getElem?_getD,List.getElem?_take,if_pos hi']
  refine ⟨hM,by rw [List.length_take]; omega,fun i hi'=>?_,fun a b hab hbL ha hb'=>?_⟩
  · rw [hnd i hi']
    obtain ⟨a1,a2,a3⟩:=h1 i (by omega)
    refine ⟨a1,a2,fun u hu=>?_⟩
    obtain ⟨b1,b2,b3,b4,b5⟩:=a3 u hu
    have hu2 : u.toNat < M:=by
      rcases Nat.lt_or_ge u.toNat M with q | q
      · exact q
      · exact absurd b5 (hnone _ q (by omega))
    refine ⟨b1,b2,b3,by omega,?_⟩
    rw [hnd _ (by omega)]
    exact b5
  · rw [hnd _ (by omega)] at ha hb' ⊢
    rw [hnd _ (by omega)]
    exact h2 a b hab (by omega) ha hb'
theorem shrT_right : ∀ (f m : Nat) (t : List NodeV),m≤f→goodL (2 ^ m) t→rightT (shrT f t)
  | 0,m,t,hm,h=>by
    obtain rfl : m = 0:=by omega
    exact h.right (.inl rfl)
  | f + 1,m,t,hm,h=>by
    simp only [shrT,h.lvs]
    cases m with
    | zero =>
      rw [if_neg (fun q=>by have:=q.1; simp at this)]
      exact h.right (.inl rfl)
    | succ m =>
      by_cases h0 : cntN (memI t) (2 ^ (m + 1) / 2) (2 ^ (m + 1) - 2 ^ (m + 1) / 2) = 0
      · have hpos:=Nat.two_pow_pos m
        rw [if_pos ⟨by rw [Nat.pow_succ]; omega,h0⟩]
        exact shrT_right f m _ (by omega) (cut_good h h0)
      · rw [if_neg (fun q=>h0 q.2)]
        refine h.right (.inr ?_)
        obtain ⟨j,h1,h2⟩:=cntN_pos.1 (Nat.pos_of_ne_zero h0)
        have:=(memN_iff h.lvs _).1 h2
        exact ⟨_,by omega,this.1,this.2⟩
def rmT (t : List NodeV) (leaf : Nat) : List NodeV:=shrT 6 (putT t leaf NodeV.nought)
def remR (t : List NodeV) (leaf : Int) : List NodeV × Int :=
  if ¬ rightT t then ([],40) else if ¬ memI t leaf then ([],43) else if cntN (memI t) 0 (lvs t) = 1 then ([],40) else (rmT t leaf.toNat,0)
theorem rmT_right {t : List NodeV} (h : rightT t) {leaf : Nat} (hl : leaf < lvs t) : rightT (rmT t leaf):=by
  obtain ⟨hg,_⟩:=h.good
  have h1:=putT_good hg hl nought_right (.inl rfl)
  obtain ⟨m,hm,e⟩:=hg.1.pow
  rw [e] at h1
  exact shrT_right 6 m _ (by omega) h1
end Go.AM
namespace Go.AM
open Go
def nameAt (t : List NodeV) (k : Nat) : List UInt8:=if memI t (k : Int) then (nd t (2 * k)).name else []
theorem nameAt_nil {t : List NodeV} (h : rightT t) (k : Nat) : nameAt t k = []↔¬ memI t (k : Int):=by
  unfold nameAt
  split
  · rename_i hm
    refine ⟨fun e=>?_,fun e=>absurd hm e⟩
    have h1:=(right_one hm.2.2).1 (h.nd _)
    rw [Int.toNat_natCast] at h1
    rw [e] at h1
    have:=h1.1
    simp at this
  · rename_i hm
    exact ⟨fun _=>hm,fun _=>rfl⟩
theorem leafN_name {name : List UInt8} {key : Nat} : (leafN name key).right↔(1≤name.length∧name.length≤16∧keyR key):=by
  rw [right_one (show (leafN name key).kind = 1 from rfl)]
  simp only [leafN,NodeV.held,keyR,List.length_nil]
  constructor
  · rintro ⟨h1,h2,⟨h3,h4,_⟩,_⟩
    exact ⟨h1,h2,by omega,by omega⟩
  · rintro ⟨h1,h2,h3,h4⟩
    exact ⟨h1,h2,⟨by omega,by omega,.inl trivial⟩,trivial⟩
theorem add_names {t : List NodeV} (h : rightT t) {n : NodeV} (hn : n.right) (hk : n.kind = 1) (hname : ¬ 0≤namedI t n.name 0) (h32 : freeT t≠32) (j : Nat) :
    (memI (addAt t (freeT t) n) (j : Int)↔j = freeT t∨memI t (j : Int))∧nameAt (addAt t (freeT t) n) j = if j = freeT t then n.name else nameAt t j:=by
  obtain ⟨⟨hL,hlen,h1,h2⟩,h3⟩:=h.good
  have hfr:=freeT_le (t:=t)
  have hfk:=free_kind hL hlen
  have hR:=addAt_right h hn hk hname h32
  have hl:=lvs_of hL hlen
  generalize freeT t = v at *
  obtain ⟨L',q1,q2,q3,q4,q5,q6⟩:=moreT_shape hL hlen hfr h32
  have hnd:=addAt_nd hL hlen hfr h32 n
  rw [q5] at hnd
  have hlen':=addAt_len (t:=t) v n
  rw [q3] at hlen'
  have hl':=lvs_of q2 hlen'
  generalize addAt t v n = T at *
  have hp:=fun u=>path_iff q2 q4 u
  have heven : ∀ j,j≠v→nd T (2 * j) = nd t (2 * j):=by
    intro j hj
    rw [hnd,if_neg (by omega),if_neg]
    intro q
    have:=((hp _).1 q.1).2.1
    omega
  have hvn : nd T (2 * v) = n:=by rw [hnd,if_pos rfl]
  have hm : memI T (j : Int)↔j = v∨memI t (j : Int):=by
    rw [memN_iff hl',memN_iff rfl]
    by_cases e : j = v
    · rw [e,hvn]
      exact ⟨fun _=>.inl rfl,fun _=>⟨q4,hk⟩⟩
    · rw [heven j e]
      constructor
      · rintro ⟨a1,a2⟩
        refine .inr ⟨?_,a2⟩
        rcases Nat.lt_or_ge j (lvs t) with q | q
        · exact q
        · rw [nd_out (by omega)] at a2; cases a2
      · rintro (a | ⟨a1,a2⟩)
        · exact absurd a e
        · exact ⟨by omega,a2⟩
  refine ⟨hm,?_⟩
  unfold nameAt
  by_cases e : j = v
  · rw [if_pos e,if_pos (hm.2 (.inl e)),e,hvn]
  · rw [if_neg e,heven j e]
    have : memI T (j : Int)↔memI t (j : Int):=by rw [hm]; exact ⟨fun q=>q.resolve_left e,.inr⟩
    simp only [this]
theorem putT_names {t : List NodeV} {L : Nat} (hL : Fit L) (hlen : t.length = 2 * L - 1) {leaf : Nat} (hl : leaf < L) {n : NodeV} (j : Nat) :
    (memI (putT t leaf n) (j : Int)↔if j = leaf then n.kind = 1 else memI t (j : Int))∧nameAt (putT t leaf n) j = if j = leaf then (if n.kind = 1 then n.name else []) else nameAt t j:=by
  have hnd:=putT_nd hL hlen hl n
  have hlen':=putT_len t leaf n
  rw [hlen] at hlen'
  have e1:=lvs_of hL hlen
  have e2:=lvs_of hL hlen'
  generalize putT t leaf n = T at *
  have heven : ∀ j,j≠leaf→nd T (2 * j) = nd t (2 * j):=by
    intro j hj
    rw [hnd,if_neg (by omega),if_neg]
    intro q
    have:=((path_iff hL hl _).1 q).2.1
    omega
  have hvn : nd T (2 * leaf) = n:=by rw [hnd,if_pos rfl]
  have hm : memI T (j : Int)↔if j = leaf then n.kind = 1 else memI t (j : Int):=by
    rw [memN_iff e2]
    by_cases e : j = leaf
    · rw [if_pos e,e,hvn]
      exact ⟨fun q=>q.2,fun q=>⟨hl,q⟩⟩
    · rw [if_neg e,heven j e,memN_iff e1]
  refine ⟨hm,?_⟩
  unfold nameAt
  by_cases e : j = leaf
  · rw [if_pos e] at hm ⊢
    simp only [hm]
    rw [e,hvn]
  · rw [if_neg e] at hm ⊢
    simp only [hm,heven j e]
theorem cut_names {t : List NodeV} {m : Nat} (h : goodL (2 ^ (m + 1)) t) (h0 : cntN (memI t) (2 ^ (m + 1) / 2) (2 ^ (m + 1) - 2 ^ (m + 1) / 2) = 0) (j : Nat) : (memI (cutT t) (j : Int)↔memI t (j : Int))∧nameAt (cutT t) j = nameAt t j:=by
  have hg:=cut_good h h0
  have e1:=h.lvs
  have e2:=hg.lvs
  have hpos:=Nat.two_pow_pos m
  have hpow : 2 ^ (m + 1) = 2 * 2 ^ m:=by rw [Nat.pow_succ]; omega
  have hnd : ∀ i,i < 2 * 2 ^ m - 1→nd (cutT t) i = nd t i:=by
    intro i hi'
    unfold cutT nd
    rw [List.getD_eq_getElem?_getD,List.getD_eq_getElem?_getD,List.getElem?_take,if_pos (by rw [e1,hpow]; omega)]
  have hm : memI (cutT t) (j : Int)↔memI t (j : Int):=by
    rw [memN_iff e2,memN_iff e1]
    constructor
    · rintro ⟨a1,a2⟩
      rw [hnd _ (by omega)] at a2
      exact ⟨by omega,a2⟩
    · rintro ⟨a1,a2⟩
      by_cases e : j < 2 ^ m
      · exact ⟨e,by rw [hnd _ (by omega)]; exact a2⟩
      · exfalso
        have : 0 < cntN (memI t) (2 ^ (m + 1) / 2) (2 ^ (m + 1) - 2 ^ (m + 1) / 2) :=
          cntN_pos.2 ⟨j - 2 ^ (m + 1) / 2,by omega,by rw [show 2 ^ (m + 1) / 2 + (j - 2 ^ (m + 1) / 2) = j by omega]; exact (memN_iff e1 _).2 ⟨a1,a2⟩⟩
        omega
  refine ⟨hm,?_⟩
  unfold nameAt
  by_cases e : memI t (j : Int)
  · rw [if_pos e,if_pos (hm.2 e),hnd]
    have:=((memN_iff e2 _).1 (hm.2 e)).1
    omega
  · rw [if_neg e,if_neg (fun q=>e (hm.1 q))]
theorem shrT_names : ∀ (f m : Nat) (t : List NodeV),m≤f→goodL (2 ^ m) t→∀ j : Nat,(memI (shrT f t) (j : Int)↔memI t (j : Int))∧nameAt (shrT f t) j = nameAt t j
  | 0,m,t,hm,h,j=>⟨Iff.rfl,rfl⟩
  | f + 1,m,t,hm,h,j=>by
    simp only [shrT,h.lvs]
    cases m with
    | zero =>
      rw [if_neg (fun q=>by have:=q.1; simp at this)]
      exact ⟨Iff.rfl,rfl⟩
    | succ m =>
      by_cases h0 : cntN (memI t) (2 ^ (m + 1) / 2) (2 ^ (m + 1) - 2 ^ (m + 1) / 2) = 0
      · have hpos:=Nat.two_pow_pos m
        rw [if_pos ⟨by rw [Nat.pow_succ]; omega,h0⟩]
        obtain ⟨a1,a2⟩:=shrT_names f m _ (by omega) (cut_good h h0) j
        obtain ⟨b1,b2⟩:=cut_names h h0 j
        exact ⟨a1.trans b1,a2.trans b2⟩
      · rw [if_neg (fun q=>h0 q.2)]
        exact ⟨Iff.rfl,rfl⟩
theorem upd_names {t : List NodeV} (h : rightT t) {leaf : Nat} (hm : memI t (leaf : Int)) (key j : Nat) : (memI (updT t leaf key) (j : Int)↔memI t (j : Int))∧nameAt (updT t leaf key) j = nameAt t j:=by
  obtain ⟨h1,h2⟩:=h.len
  have hl:=(memN_iff rfl _).1 hm
  obtain ⟨a1,a2⟩:=putT_names h2 h1 hl.1 (n:=leafN (nd t (2 * leaf)).name key) j
  unfold updT
  by_cases e : j = leaf
  · rw [if_pos e] at a1 a2
    rw [if_pos (show (leafN (nd t (2 * leaf)).name key).kind = 1 from rfl)] at a2
    refine ⟨⟨fun _=>by rw [e]; exact hm,fun _=>a1.2 rfl⟩,?_⟩
    rw [a2,e]
    unfold nameAt
    rw [if_pos hm]; rfl
  · rw [if_neg e] at a1 a2
    exact ⟨a1,a2⟩
theorem rm_names {t : List NodeV} (h : rightT t) {leaf : Nat} (hl : leaf < lvs t) (j : Nat) : (memI (rmT t leaf) (j : Int)↔j≠leaf∧memI t (j : Int))∧nameAt (rmT t leaf) j = if j = leaf then [] else nameAt t j:=by
  obtain ⟨hg,_⟩:=h.good
  have h1:=putT_good hg hl nought_right (.inl rfl)
  obtain ⟨m,hm,e⟩:=hg.1.pow
  rw [e] at h1
  obtain ⟨b1,b2⟩:=shrT_names 6 m _ (by omega) h1 j
  obtain ⟨a1,a2⟩:=putT_names hg.1 hg.2.1 hl (n:=NodeV.nought) j
  unfold rmT
  rw [b1,b2,a1,a2]
  by_cases e : j = leaf
  · simp only [if_pos e]
    exact ⟨⟨fun q=>(by cases q),fun q=>absurd e q.1⟩,rfl⟩
  · simp only [if_neg e]
    exact ⟨⟨fun q=>⟨e,q⟩,fun q=>q.2⟩,trivial⟩
end Go.AM
