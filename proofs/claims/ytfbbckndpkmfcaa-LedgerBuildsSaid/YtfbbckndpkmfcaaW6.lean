/- Contracts of the program's functions, each walked once; the conditions stand in each theorem. -/
import Derived.Test.YtfbbckndpkmfcaaAMp6
import Derived.Test.YtfbbckndpkmfcaaW1
import Derived.Test.YtfbbckndpkmfcaaW5
import Derived.Test.YtfbbckndpkmfcaaAMp7
import Derived.Test.YtfbbckndpkmfcaaW4
set_option linter.unusedSimpArgs false
set_option linter.unusedVariables false
open Nat renaming reduceLT → Na, reduceLeDiff → Nb, reduceEqDiff → Nc, reduceAdd → Nk, reduceMul → Nf, reducePow → Ng, reduceSub → Nh, reduceBEq → Nz
open Int renaming reduceLT → Za, reduceLE → Zb, reduceToNat → Zc
open Go.AM renaming ashift → Qa, aconv → Qb, aindexAddr → Qc, aindex → Qd, aslice → Qe, abuiltin → Qf, awp_reg_seq → wS, awp_reg_end → wE, awp_seq_k → wK, awp_cond_k → wC
open Go.AM.AV renaming cells → Qg, one → Qh
set_option maxRecDepth 100000
set_option maxHeartbeats 8000000
set_option autoImplicit false
namespace Go.Proofs.Ytfbbckndpkmfcaa
open Go Go.AM Go.Proofs
variable {Γ : Nat→List AV}
theorem while_eq {b : Int} {N : List Int} {k : Nat} (hk : k≤N.length) (h1 : ∀ j,(h : j < N.length)→j < k→N[j] < b) (h2 : ∀ h : k < N.length,¬ N[k] < b) :
  (N.takeWhile fun x=>decide (x < b)) = N.take k∧(N.dropWhile fun x=>decide (x < b)) = N.drop k:=by
 induction N generalizing k with
 | nil=>simp
 | cons x N ih =>
  cases k with
  | zero =>
   have:=h2 (by simp)
   simp only [List.getElem_cons_zero] at this
   simp [this]
  | succ k =>
   have h0:=h1 0 (by simp) (by omega)
   simp only [List.getElem_cons_zero] at h0
   obtain ⟨c,d⟩:=ih (k:=k) (by simpa using hk) (fun j hj hjk=>h1 (j + 1) (by simp; omega) (by omega)) (fun h=>h2 (by simp; omega))
   simp [h0,c,d]
theorem refBuckets_calls {s : AS} {p : Nat} {l : List Rec} (h : s.objs p = some [recsV l]) (hl : l.length≤2 ^ 40) : ACalls Try.prog Γ 32 [.ptr p 0] s (fun r s'=>r = intsV (bktsR l) .any∧s' = s):=by
 refine tidyL (Q:=fun r=>r = intsV (bktsR l) .any) ?_
 refine acalls_body Try.func32 rfl Try.ntmps32 Try.results32 (by simp) ?_
 have hrow:=fun i (h : i < l.length)=>row_at (c:=Rec.cells) (k:=9) (fun _=>rfl) h
 have hshr:=fun (s2 : AS) (h2 : s2.objs p = some [recsV l]) b=>refShr_calls (Γ:=Γ) h2 hl b
 have hshr:=fun (s2 : AS) (h2 : s.le s2) b=>hshr s2 (h2.objs _ _ h) b
 unfold recsV at h
 generalize rowC Rec.cells l = X at *
 refine wS fun K hK=>?_
 simp only [↓DN,Qa,Qb,Qc,Qd,Qe,Qf,Qg,Qh,reduceCtorEq,↓reduceIte,Na,Nb,Nc,Nk,Nf,Ng,Nh,Za,Zb,Zc,TT]
 refine hK _ _ ?_;clear hK K
 refine wS fun K hK=>?_
 simp only [↓DN,Qa,Qb,Qc,Qd,Qe,Qf,Qg,Qh,reduceCtorEq,↓reduceIte,Na,Nb,Nc,Nk,Nf,Ng,Nh,Za,Zb,Zc,TT]
 refine hK _ _ ?_;clear hK K
 refine wK fun K hK=>?_
 refine wS fun K hK=>?_
 simp only [↓DN,Qa,Qb,Qc,Qd,Qe,Qf,Qg,Qh,reduceCtorEq,↓reduceIte,Na,Nb,Nc,Nk,Nf,Ng,Nh,Za,Zb,Zc,TT]
 refine hK _ _ ?_;clear hK K
 refine awp_block ?_
 refine awp_loop (fun E s'=>∃ (i : Nat) (x : AV) (N : List Int),i≤l.length∧E 4 = .v (.int .i64 i)∧E 0 = .ptr p 0∧E 3 = x∧N = (l.take i).foldl (bktAdd l) []∧RBuf 1 s s' x N.length (N.map intC)∧N.length≤i∧s.le s')
  (fun E _=>match E 4 with | .v (.int _ i)=>l.length - i.toNat | _=>0) ?_ ?_
 ·exact ⟨0,nilS,[],Nat.zero_le _,by simp only [upd,Nc,↓reduceIte]; rfl,by simp only [upd,initE,List.getD_cons_zero,List.getD_cons_succ,Nc,↓reduceIte],by simp only [upd,Nc,↓reduceIte]; rfl,rfl,RBuf.nil _ _ _,Nat.le_refl _,AS.le.refl _⟩
 rintro E1 s1 ⟨i,x,N,hi,g4,g0,g3,hN,hx,hxl,hle⟩ -
 have h1:=hle.objs _ _ h
 refine wK fun K2 hK2=>?_
 by_cases hi' : i < l.length
 ·refine wS fun K hK=>?_
  simp only [↓DN,Qa,Qb,Qc,Qd,Qe,Qf,Qg,Qh,reduceCtorEq,↓reduceIte,Na,Nb,Nc,Nk,Nf,Ng,Nh,Za,Zb,Zc,TT,g4,g0,h1,eye_lt_nat,decide_eq_true hi']
  refine hK _ _ ?_;clear hK K
  refine wC fun X Y hX hY=>?_
  simp only [UP,DF,Nc,↓reduceIte,DB]
  refine hX ?_;clear hX hY X Y
  refine awp_skip ?_
  refine hK2 _ _ ?_;clear hK2 K2
  refine wK fun K3 hK3=>?_
  refine awp_block ?_
  have hge : (0 : Int)≤((i : Nat) : Int):=by omega
  have hat:=hrow i hi'
  have htk : (l.take (i + 1)).foldl (bktAdd l) [] = bktAdd l N l[i]:=by rw [List.take_succ_eq_append_getElem hi',List.foldl_append,← hN]; rfl
  have hend : ∀ (E : Env) (s2 : AS) (x2 : AV) (N2 : List Int),E 4 = .v (.int .i64 i)→E 0 = .ptr p 0→E 3 = x2→N2 = bktAdd l N l[i]→RBuf 1 s s2 x2 N2.length (N2.map intC)→N2.length≤i + 1→s.le s2→K3 E s2:=by
   intro E s2 x2 N2 f4 f0 f3 fN fx fl fle
   refine hK3 _ _ ?_;clear hK3 K3
   refine wE fun K hK=>?_
   simp only [↓DN,Qa,Qb,Qc,Qd,Qe,Qf,Qg,Qh,reduceCtorEq,↓reduceIte,Na,Nb,Nc,Nk,Nf,Ng,Nh,Za,Zb,Zc,TT,f4,eye_succM i (by omega)]
   refine hK _ _ ?_;clear hK K
   refine ⟨⟨i + 1,x2,N2,hi',by simp only [upd,Nc,↓reduceIte],by simp only [upd,f0,Nc,↓reduceIte],by simp only [upd,f3,Nc,↓reduceIte],by rw [htk]; exact fN,fx,fl,fle⟩,?_⟩
   simp only [g4,upd,↓reduceIte]
   omega
  clear hK3 htk hN
  have hsh:=hshr s1 hle l[i].bucket
  generalize l[i] = r at *
  unfold bktAdd at hend
  obtain ⟨rk,rg,re,rt,b,ry,rtr,rsc,rw'⟩:=r
  unfold Rec.cells at *
  simp only at *
  generalize shrR b l = S at *
  unfold bytesV at *
  refine wS fun K hK=>?_
  simp only [↓DN,Qa,Qb,Qc,Qd,Qe,Qf,Qg,Qh,reduceCtorEq,↓reduceIte,Na,Nb,Nc,Nk,Nf,Ng,Nh,Za,Zb,Zc,TT,g4,g0,h1,hge,eye_lt_nat,hi',hat]
  refine hK _ _ ?_;clear hK K
  refine wK fun K4 hK4=>?_
  by_cases h3 : rk = 3
  ·rw [if_pos (.inl h3)] at hend
   refine wS fun K hK=>?_
   simp only [↓DN,Qa,Qb,Qc,Qd,Qe,Qf,Qg,Qh,reduceCtorEq,↓reduceIte,Na,Nb,Nc,Nk,Nf,Ng,Nh,Za,Zb,Zc,TT,g4,g0,h1,hge,eye_lt_nat,hi',hat,int_eq_yes h3]
   refine hK _ _ ?_;clear hK K
   refine wC fun X Y hX hY=>?_
   simp only [UP,DF,Nc,↓reduceIte,DB]
   refine hX ?_;clear hX hY X Y
   refine awp_exit ?_
   simp only [thenQ,blockQ,if_true]
   exact hend _ _ x N (by simp only [upd,g4,Nc,↓reduceIte]) (by simp only [upd,g0,Nc,↓reduceIte]) (by simp only [upd,g3,Nc,↓reduceIte]) rfl hx (by omega) hle
  ·refine wS fun K hK=>?_
   simp only [↓DN,Qa,Qb,Qc,Qd,Qe,Qf,Qg,Qh,reduceCtorEq,↓reduceIte,Na,Nb,Nc,Nk,Nf,Ng,Nh,Za,Zb,Zc,TT,g4,g0,h1,hge,eye_lt_nat,hi',hat,int_eq_no h3]
   refine acallk hsh ?_
   rintro r s2 ⟨rfl,rfl⟩
   cases S with
   | true =>
    rw [if_pos (.inr rfl)] at hend
    simp only [↓DM,pval,DX,Nz,↓DN,Qa,Qb,Qc,Qd,Qe,Qf,Qg,Qh,reduceCtorEq,↓reduceIte,Na,Nb,Nc,Nk,Nf,Ng,Nh,Za,Zb,Zc,TT]
    refine hK _ _ ?_;clear hK K
    refine wC fun X Y hX hY=>?_
    simp only [UP,DF,Nc,↓reduceIte,DB]
    refine hX ?_;clear hX hY X Y
    refine awp_exit ?_
    simp only [thenQ,blockQ,if_true]
    exact hend _ _ x N (by simp only [upd,g4,Nc,↓reduceIte]) (by simp only [upd,g0,Nc,↓reduceIte]) (by simp only [upd,g3,Nc,↓reduceIte]) rfl hx (by omega) hle
   | false =>
    rw [if_neg (by rintro (q | q); exact h3 q; cases q)] at hend
    simp only [↓DM,pval,DX,Nz,↓DN,Qa,Qb,Qc,Qd,Qe,Qf,Qg,Qh,reduceCtorEq,↓reduceIte,Na,Nb,Nc,Nk,Nf,Ng,Nh,Za,Zb,Zc,TT]
    refine hK _ _ ?_;clear hK K
    refine wC fun X Y hX hY=>?_
    simp only [UP,DF,Nc,↓reduceIte,DB]
    refine hY ?_;clear hX hY X Y
    refine awp_skip ?_
    refine hK4 _ _ ?_;clear hK4 K4
    have hxc : (x = .v (.slice none 0 0)∧N = [])∨∃ t e,x = .sl 1 N.length (N.map intC) (.own t e):=by
     rcases hx with ⟨rfl,h0,hL0⟩ | ⟨t,e,rfl,ht,ht0⟩
     ·exact .inl ⟨rfl,List.eq_nil_of_length_eq_zero h0⟩
     ·exact .inr ⟨t,e,rfl⟩
    clear hx hat
    refine wS fun K hK=>?_
    simp only [↓DN,Qa,Qb,Qc,Qd,Qe,Qf,Qg,Qh,reduceCtorEq,↓reduceIte,Na,Nb,Nc,Nk,Nf,Ng,Nh,Za,Zb,Zc,TT]
    refine hK _ _ ?_;clear hK K
    refine wS fun K hK=>?_
    simp only [↓DN,Qa,Qb,Qc,Qd,Qe,Qf,Qg,Qh,reduceCtorEq,↓reduceIte,Na,Nb,Nc,Nk,Nf,Ng,Nh,Za,Zb,Zc,TT]
    refine hK _ _ ?_;clear hK K
    refine wK fun K5 hK5=>?_
    have hAf : ∀ (E : Env) (s3 : AS) (k : Nat) (x2 : AV),k≤N.length→(∀ j,(h : j < N.length)→j < k→N[j] < b)→(∀ h : k < N.length,¬ N[k] < b)→E 7 = .v (.int .i64 k)→E 6 = x2→RBuf 1 s s3 x2 k ((N.take k).map intC)→E 3 = x→E 4 = .v (.int .i64 i)→E 0 = .ptr p 0→E 5 = .v (.int .i64 b)→s.le s3→K5 E s3:=by
     intro E s3 k x2 hk hlt hge2 f7 f6 fx f3 f4 f0 f5 fle
     refine hK5 _ _ ?_;clear hK5 K5
     obtain ⟨w1,w2⟩:=while_eq hk hlt hge2
     have hins : insB b N = N.take k ++ b :: (if (N.drop k).head? = some b then (N.drop k).tail else N.drop k):=by unfold insB; rw [w1,w2]
     refine wK fun K8 hK8=>?_
     have hAf2 : ∀ (E : Env) (s4 : AS) (t2 e2 : Nat),E 7 = .v (.int .i64 k)→E 6 = .sl 1 (k + 1) ((N.take k).map intC ++ [.v (.int .i64 b)]) (.own t2 e2)→s4.own t2 = some e2→s.own t2 = none→E 3 = x→E 4 = .v (.int .i64 i)→E 0 = .ptr p 0→E 5 = .v (.int .i64 b)→s.le s4→K8 E s4:=by
      intro E s4 t2 e2 f7 f6 ht ht0 f3 f4 f0 f5 fle
      refine hK8 _ _ ?_;clear hK8 K8
      refine wK fun K9 hK9=>?_
      have hAf3 : ∀ (E : Env) (k2 : Nat),k≤k2→k2≤N.length→insB b N = N.take k ++ b :: N.drop k2→E 7 = .v (.int .i64 k2)→E 6 = .sl 1 (k + 1) ((N.take k).map intC ++ [.v (.int .i64 b)]) (.own t2 e2)→E 3 = x→E 4 = .v (.int .i64 i)→E 0 = .ptr p 0→K9 E s4:=by
       intro E k2 hkk hk2 hB q7 q6 q3 q4 q0
       refine hK9 _ _ ?_;clear hK9 K9
       have hgk2 : (0 : Int)≤((k2 : Nat) : Int):=by omega
       have hgk3 : ((k2 : Nat) : Int)≤((N.length : Nat) : Int):=by omega
       have htk0 : (N.map intC).take N.length = N.map intC:=List.take_of_length_le (by simp)
       have hlen : (insB b N).length = k + 1 + (N.length - k2):=by rw [hB]; simp only [List.length_append,List.length_cons,List.length_take,List.length_drop]; omega
       have hmap : (insB b N).map intC = (N.take k).map intC ++ ([.v (.int .i64 b)] ++ (N.map intC).drop k2):=by rw [hB]; simp [intC]
       by_cases hm : N.length - k2 = 0
       ·have hdr : (N.map intC).drop k2 = []:=List.drop_eq_nil_of_le (by simp; omega)
        rw [hdr,List.append_nil] at hmap
        rw [hm,Nat.add_zero] at hlen
        have hl2 : (insB b N).length≤i + 1:=by omega
        rcases hxc with ⟨rfl,rfl⟩ | ⟨t,e,rfl⟩
        ·obtain rfl : k2 = 0:=by simpa using hk2
         refine wE fun K hK=>?_
         simp only [↓DN,Qa,Qb,Qc,Qd,Qe,Qf,Qg,Qh,reduceCtorEq,↓reduceIte,Na,Nb,Nc,Nk,Nf,Ng,Nh,Za,Zb,Zc,TT,q6,q3,q7,ht,show (((0 : Nat) : Int) = 0) = True from eq_true rfl]
         refine hK _ _ (hend _ _ (.sl 1 (insB b []).length ((insB b []).map intC) (.own t2 e2)) _ (by simp only [upd,q4,Nc,↓reduceIte]) (by simp only [upd,q0,Nc,↓reduceIte]) ?_ rfl (.inr ⟨t2,e2,rfl,ht,ht0⟩) hl2 fle)
         simp only [upd,Nc,↓reduceIte]
         rw [hlen,hmap]
        ·refine wE fun K hK=>?_
         simp only [↓DN,Qa,Qb,Qc,Qd,Qe,Qf,Qg,Qh,reduceCtorEq,↓reduceIte,Na,Nb,Nc,Nk,Nf,Ng,Nh,Za,Zb,Zc,TT,q6,q3,q7,ht,hgk2,hgk3,Int.le_refl,htk0,hm]
         refine hK _ _ (hend _ _ (.sl 1 (insB b N).length ((insB b N).map intC) (.own t2 e2)) _ (by simp only [upd,q4,Nc,↓reduceIte]) (by simp only [upd,q0,Nc,↓reduceIte]) ?_ rfl (.inr ⟨t2,e2,rfl,ht,ht0⟩) hl2 fle)
         simp only [upd,Nc,↓reduceIte]
         rw [hlen,hmap]
       ·rcases hxc with ⟨rfl,rfl⟩ | ⟨t,e,rfl⟩
        ·exact absurd (by simp) hm
        ·have hone : ((N.map intC).drop k2).all AV.one = true:=by
          rw [List.all_eq_true]
          intro c hc
          obtain ⟨n,-,rfl⟩:=List.mem_map.1 (List.mem_of_mem_drop hc)
          rfl
         refine wE fun K hK=>?_
         simp only [↓DN,Qa,Qb,Qc,Qd,Qe,Qf,Qg,Qh,reduceCtorEq,↓reduceIte,Na,Nb,Nc,Nk,Nf,Ng,Nh,Za,Zb,Zc,TT,q6,q3,q7,ht,hgk2,hgk3,Int.le_refl,htk0,hm,hone]
         refine ⟨by omega,by omega,hK _ _ (hend _ _ (.sl 1 (insB b N).length ((insB b N).map intC) (.own t2 (e2 + 1))) _ (by simp only [upd,q4,Nc,↓reduceIte]) (by simp only [upd,q0,Nc,↓reduceIte]) ?_ rfl (.inr ⟨t2,_,rfl,by simp [AS.gain],ht0⟩) ?_ (AS.le_gain fle ht0 _))⟩
         ·simp only [upd,Nc,↓reduceIte]
          rw [hlen,hmap]
          rfl
         ·omega
      clear hK9
      rcases hxc with ⟨rfl,rfl⟩ | ⟨t,e,rfl⟩
      ·obtain rfl : k = 0:=by simpa using hk
       refine wS fun K hK=>?_
       simp only [↓DN,Qa,Qb,Qc,Qd,Qe,Qf,Qg,Qh,reduceCtorEq,↓reduceIte,Na,Nb,Nc,Nk,Nf,Ng,Nh,Za,Zb,Zc,TT,f7,f3,show decide (((0 : Nat) : Int) < ((0 : Nat) : Int)) = false from rfl,show decide (((0 : Nat) : Int) < (0 : Int)) = false from rfl]
       refine hK _ _ ?_;clear hK K
       refine wC fun X Y hX hY=>?_
       simp only [UP,DF,Nc,↓reduceIte,DB]
       refine hY ?_;clear hX hY X Y
       refine awp_skip ?_
       exact hAf3 _ 0 (Nat.le_refl _) (Nat.zero_le _) (by rw [hins]; rfl) (by simp only [upd,f7,Nc,↓reduceIte]) (by simp only [upd,f6,Nc,↓reduceIte]) (by simp only [upd,f3,Nc,↓reduceIte]) (by simp only [upd,f4,Nc,↓reduceIte]) (by simp only [upd,f0,Nc,↓reduceIte])
      ·by_cases hk' : k < N.length
       ·have hgk : (0 : Int)≤((k : Nat) : Int):=by omega
        have hat:=eat_int hk'
        have hdk : N.drop k = N[k] :: N.drop (k + 1):=List.drop_eq_getElem_cons hk'
        by_cases hb : N[k] = b
        ·refine wS fun K hK=>?_
         simp only [↓DN,Qa,Qb,Qc,Qd,Qe,Qf,Qg,Qh,reduceCtorEq,↓reduceIte,Na,Nb,Nc,Nk,Nf,Ng,Nh,Za,Zb,Zc,TT,f7,f3,f5,eye_lt_nat,decide_eq_true hk',hgk,hk',hat,int_eq_yes hb]
         refine hK _ _ ?_;clear hK K
         refine wC fun X Y hX hY=>?_
         simp only [UP,DF,Nc,↓reduceIte,DB]
         refine hX ?_;clear hX hY X Y
         refine wE fun K hK=>?_
         simp only [↓DN,Qa,Qb,Qc,Qd,Qe,Qf,Qg,Qh,reduceCtorEq,↓reduceIte,Na,Nb,Nc,Nk,Nf,Ng,Nh,Za,Zb,Zc,TT,f7,eye_succM k (by omega)]
         refine hK _ _ ?_;clear hK K
         exact hAf3 _ (k + 1) (by omega) hk' (by rw [hins,hdk,hb]; simp) (by simp only [upd,Nc,↓reduceIte]) (by simp only [upd,f6,Nc,↓reduceIte]) (by simp only [upd,f3,Nc,↓reduceIte]) (by simp only [upd,f4,Nc,↓reduceIte]) (by simp only [upd,f0,Nc,↓reduceIte])
        ·refine wS fun K hK=>?_
         simp only [↓DN,Qa,Qb,Qc,Qd,Qe,Qf,Qg,Qh,reduceCtorEq,↓reduceIte,Na,Nb,Nc,Nk,Nf,Ng,Nh,Za,Zb,Zc,TT,f7,f3,f5,eye_lt_nat,decide_eq_true hk',hgk,hk',hat,int_eq_no hb]
         refine hK _ _ ?_;clear hK K
         refine wC fun X Y hX hY=>?_
         simp only [UP,DF,Nc,↓reduceIte,DB]
         refine hY ?_;clear hX hY X Y
         refine awp_skip ?_
         exact hAf3 _ k (Nat.le_refl _) (by omega) (by rw [hins,if_neg]; intro q; rw [hdk,List.head?_cons,Option.some.injEq] at q; exact hb q) (by simp only [upd,f7,Nc,↓reduceIte]) (by simp only [upd,f6,Nc,↓reduceIte]) (by simp only [upd,f3,Nc,↓reduceIte]) (by simp only [upd,f4,Nc,↓reduceIte]) (by simp only [upd,f0,Nc,↓reduceIte])
       ·refine wS fun K hK=>?_
        simp only [↓DN,Qa,Qb,Qc,Qd,Qe,Qf,Qg,Qh,reduceCtorEq,↓reduceIte,Na,Nb,Nc,Nk,Nf,Ng,Nh,Za,Zb,Zc,TT,f7,f3,eye_lt_nat,decide_eq_false hk']
        refine hK _ _ ?_;clear hK K
        refine wC fun X Y hX hY=>?_
        simp only [UP,DF,Nc,↓reduceIte,DB]
        refine hY ?_;clear hX hY X Y
        refine awp_skip ?_
        have hdk : N.drop k = []:=List.drop_eq_nil_of_le (by omega)
        exact hAf3 _ k (Nat.le_refl _) (by omega) (by rw [hins,hdk]; simp) (by simp only [upd,f7,Nc,↓reduceIte]) (by simp only [upd,f6,Nc,↓reduceIte]) (by simp only [upd,f3,Nc,↓reduceIte]) (by simp only [upd,f4,Nc,↓reduceIte]) (by simp only [upd,f0,Nc,↓reduceIte])
     clear hK8
     rcases fx with ⟨rfl,h0,hL0⟩ | ⟨t2,e2,rfl,ht,ht0⟩
     ·refine wE fun K hK=>?_
      simp only [↓DN,Qa,Qb,Qc,Qd,Qe,Qf,Qg,Qh,reduceCtorEq,↓reduceIte,Na,Nb,Nc,Nk,Nf,Ng,Nh,Za,Zb,Zc,TT,f6,f5,nilS,List.replicate_succ,List.replicate_zero]
      intro t2 ht
      have ht0:=own_none_le fle ht
      refine hK _ _ (hAf2 _ _ t2 0 (by simp only [upd,f7,Nc,↓reduceIte]) ?_ (by simp [AS.gain]) ht0 (by simp only [upd,f3,Nc,↓reduceIte]) (by simp only [upd,f4,Nc,↓reduceIte]) (by simp only [upd,f0,Nc,↓reduceIte]) (by simp only [upd,f5,Nc,↓reduceIte]) (AS.le_gain fle ht0 0))
      subst h0
      simp only [upd,Nc,↓reduceIte]
      rfl
     ·refine wE fun K hK=>?_
      simp only [↓DN,Qa,Qb,Qc,Qd,Qe,Qf,Qg,Qh,reduceCtorEq,↓reduceIte,Na,Nb,Nc,Nk,Nf,Ng,Nh,Za,Zb,Zc,TT,f6,f5,ht,List.replicate_succ,List.replicate_zero]
      refine ⟨by omega,by omega,hK _ _ (hAf2 _ _ t2 (e2 + 1) (by simp only [upd,f7,Nc,↓reduceIte]) (by simp only [upd,Nc,↓reduceIte]) (by simp [AS.gain]) ht0 (by simp only [upd,f3,Nc,↓reduceIte]) (by simp only [upd,f4,Nc,↓reduceIte]) (by simp only [upd,f0,Nc,↓reduceIte]) (by simp only [upd,f5,Nc,↓reduceIte]) (AS.le_gain fle ht0 (e2 + 1)))⟩
    clear hK5
    refine awp_block ?_
    refine awp_loop (fun E s'=>∃ (k : Nat) (x2 : AV),k≤N.length∧E 7 = .v (.int .i64 k)∧E 6 = x2∧RBuf 1 s s' x2 k ((N.take k).map intC)∧(∀ j,(h : j < N.length)→j < k→N[j] < b)∧E 3 = x∧E 4 = .v (.int .i64 i)∧E 0 = .ptr p 0∧E 5 = .v (.int .i64 b)∧s.le s')
     (fun E _=>match E 7 with | .v (.int _ i)=>N.length - i.toNat | _=>0) ?_ ?_
    ·exact ⟨0,nilS,Nat.zero_le _,by simp only [upd,↓reduceIte]; rfl,by simp only [upd,Nc,↓reduceIte]; rfl,RBuf.nil _ _ _,fun _ _ q=>absurd q (Nat.not_lt_zero _),by simp only [upd,g3,Nc,↓reduceIte],by simp only [upd,g4,Nc,↓reduceIte],by simp only [upd,g0,Nc,↓reduceIte],by simp only [upd,Nc,↓reduceIte],hle⟩
    clear hle h1
    rintro E2 s3 ⟨k,x2,hk,k7,k6,fx,hlt,k3,k4,k0,k5,hle⟩ -
    refine wK fun K6 hK6=>?_
    have hout : ∀ E : Env,(∀ h : k < N.length,¬ N[k] < b)→E 7 = .v (.int .i64 k)→E 6 = x2→E 3 = x→E 4 = .v (.int .i64 i)→E 0 = .ptr p 0→E 5 = .v (.int .i64 b)→K5 E s3:=fun E h2 f7 f6 f3 f4 f0 f5=>hAf E s3 k x2 hk hlt h2 f7 f6 fx f3 f4 f0 f5 hle
    rcases hxc with ⟨rfl,rfl⟩ | ⟨t,e,rfl⟩
    ·obtain rfl : k = 0:=by simpa using hk
     refine wS fun K hK=>?_
     simp only [↓DN,Qa,Qb,Qc,Qd,Qe,Qf,Qg,Qh,reduceCtorEq,↓reduceIte,Na,Nb,Nc,Nk,Nf,Ng,Nh,Za,Zb,Zc,TT,k7,k3,show decide (((0 : Nat) : Int) < ((0 : Nat) : Int)) = false from rfl,show decide (((0 : Nat) : Int) < (0 : Int)) = false from rfl]
     refine hK _ _ ?_;clear hK K
     refine wC fun X Y hX hY=>?_
     simp only [UP,DF,Nc,↓reduceIte,DB]
     refine hY ?_;clear hX hY X Y
     refine awp_exit ?_
     simp only [thenQ,blockQ,if_true]
     exact hout _ (fun h=>absurd h (by simp)) (by simp only [upd,k7,Nc,↓reduceIte]) (by simp only [upd,k6,Nc,↓reduceIte]) (by simp only [upd,k3,Nc,↓reduceIte]) (by simp only [upd,k4,Nc,↓reduceIte]) (by simp only [upd,k0,Nc,↓reduceIte]) (by simp only [upd,k5,Nc,↓reduceIte])
    by_cases hk' : k < N.length
    ·have hgk : (0 : Int)≤((k : Nat) : Int):=by omega
     have hat:=eat_int hk'
     by_cases hc : N[k] < b
     ·refine wS fun K hK=>?_
      simp only [↓DN,Qa,Qb,Qc,Qd,Qe,Qf,Qg,Qh,reduceCtorEq,↓reduceIte,Na,Nb,Nc,Nk,Nf,Ng,Nh,Za,Zb,Zc,TT,k7,k3,k5,eye_lt_nat,decide_eq_true hk',hgk,hk',hat,decide_eq_true hc]
      refine hK _ _ ?_;clear hK K
      refine wC fun X Y hX hY=>?_
      simp only [UP,DF,Nc,↓reduceIte,DB]
      refine hX ?_;clear hX hY X Y
      refine awp_skip ?_
      refine hK6 _ _ ?_;clear hK6 K6
      refine awp_block ?_
      refine wK fun K7 hK7=>?_
      have hnx : ∀ (E : Env) (s4 : AS) (x3 : AV),E 7 = .v (.int .i64 k)→E 6 = x3→RBuf 1 s s4 x3 (k + 1) ((N.take k).map intC ++ [.v (.int .i64 N[k])])→E 3 = .sl 1 N.length (N.map intC) (.own t e)→E 4 = .v (.int .i64 i)→E 0 = .ptr p 0→E 5 = .v (.int .i64 b)→s.le s4→K7 E s4:=by
       intro E s4 x3 f7 f6 fx f3 f4 f0 f5 fle
       refine hK7 _ _ ?_;clear hK7 K7
       refine wE fun K hK=>?_
       simp only [↓DN,Qa,Qb,Qc,Qd,Qe,Qf,Qg,Qh,reduceCtorEq,↓reduceIte,Na,Nb,Nc,Nk,Nf,Ng,Nh,Za,Zb,Zc,TT,f7,eye_succM k (by omega)]
       refine hK _ _ ?_;clear hK K
       refine ⟨⟨k + 1,x3,hk',by simp only [upd,Nc,↓reduceIte],by simp only [upd,f6,Nc,↓reduceIte],?_,?_,by simp only [upd,f3,Nc,↓reduceIte],by simp only [upd,f4,Nc,↓reduceIte],by simp only [upd,f0,Nc,↓reduceIte],by simp only [upd,f5,Nc,↓reduceIte],fle⟩,?_⟩
       ·rw [List.take_succ_eq_append_getElem hk',List.map_append]
        exact fx
       ·intro j hj hjk
        by_cases e : j = k
        ·subst e; exact hc
        ·exact hlt j hj (by omega)
       ·simp only [k7,upd,↓reduceIte]
        omega
      clear hK7
      rcases fx with ⟨rfl,h0,hL0⟩ | ⟨t2,e2,rfl,ht,ht0⟩
      ·refine wE fun K hK=>?_
       simp only [↓DN,Qa,Qb,Qc,Qd,Qe,Qf,Qg,Qh,reduceCtorEq,↓reduceIte,Na,Nb,Nc,Nk,Nf,Ng,Nh,Za,Zb,Zc,TT,k6,k3,k7,hgk,eye_lt_nat,hk',hat,nilS,List.replicate_succ,List.replicate_zero]
       intro t2 ht
       have ht0:=own_none_le hle ht
       refine hK _ _ (hnx _ _ (.sl 1 1 [.v (.int .i64 N[k])] (.own t2 0)) (by simp only [upd,k7,Nc,↓reduceIte]) (by simp only [upd,Nc,↓reduceIte]) (.inr ⟨t2,0,?_,by simp [AS.gain],ht0⟩) (by simp only [upd,k3,Nc,↓reduceIte]) (by simp only [upd,k4,Nc,↓reduceIte]) (by simp only [upd,k0,Nc,↓reduceIte]) (by simp only [upd,k5,Nc,↓reduceIte]) (AS.le_gain hle ht0 0))
       rw [hL0,show k + 1 = 1 by omega]
       rfl
      ·refine wE fun K hK=>?_
       simp only [↓DN,Qa,Qb,Qc,Qd,Qe,Qf,Qg,Qh,reduceCtorEq,↓reduceIte,Na,Nb,Nc,Nk,Nf,Ng,Nh,Za,Zb,Zc,TT,k6,k3,k7,hgk,eye_lt_nat,hk',hat,ht,List.replicate_succ,List.replicate_zero]
       refine ⟨by omega,by omega,hK _ _ (hnx _ _ (.sl 1 (k + 1) ((N.take k).map intC ++ [.v (.int .i64 N[k])]) (.own t2 (e2 + 1))) (by simp only [upd,k7,Nc,↓reduceIte]) (by simp only [upd,Nc,↓reduceIte]) (.inr ⟨t2,e2 + 1,rfl,by simp [AS.gain],ht0⟩) (by simp only [upd,k3,Nc,↓reduceIte]) (by simp only [upd,k4,Nc,↓reduceIte]) (by simp only [upd,k0,Nc,↓reduceIte]) (by simp only [upd,k5,Nc,↓reduceIte]) (AS.le_gain hle ht0 (e2 + 1)))⟩
     ·refine wS fun K hK=>?_
      simp only [↓DN,Qa,Qb,Qc,Qd,Qe,Qf,Qg,Qh,reduceCtorEq,↓reduceIte,Na,Nb,Nc,Nk,Nf,Ng,Nh,Za,Zb,Zc,TT,k7,k3,k5,eye_lt_nat,decide_eq_true hk',hgk,hk',hat,decide_eq_false hc]
      refine hK _ _ ?_;clear hK K
      refine wC fun X Y hX hY=>?_
      simp only [UP,DF,Nc,↓reduceIte,DB]
      refine hY ?_;clear hX hY X Y
      refine awp_exit ?_
      simp only [thenQ,blockQ,if_true]
      exact hout _ (fun _=>hc) (by simp only [upd,k7,Nc,↓reduceIte]) (by simp only [upd,k6,Nc,↓reduceIte]) (by simp only [upd,k3,Nc,↓reduceIte]) (by simp only [upd,k4,Nc,↓reduceIte]) (by simp only [upd,k0,Nc,↓reduceIte]) (by simp only [upd,k5,Nc,↓reduceIte])
    ·refine wS fun K hK=>?_
     simp only [↓DN,Qa,Qb,Qc,Qd,Qe,Qf,Qg,Qh,reduceCtorEq,↓reduceIte,Na,Nb,Nc,Nk,Nf,Ng,Nh,Za,Zb,Zc,TT,k7,k3,eye_lt_nat,decide_eq_false hk']
     refine hK _ _ ?_;clear hK K
     refine wC fun X Y hX hY=>?_
     simp only [UP,DF,Nc,↓reduceIte,DB]
     refine hY ?_;clear hX hY X Y
     refine awp_exit ?_
     simp only [thenQ,blockQ,if_true]
     exact hout _ (fun h=>absurd h hk') (by simp only [upd,k7,Nc,↓reduceIte]) (by simp only [upd,k6,Nc,↓reduceIte]) (by simp only [upd,k3,Nc,↓reduceIte]) (by simp only [upd,k4,Nc,↓reduceIte]) (by simp only [upd,k0,Nc,↓reduceIte]) (by simp only [upd,k5,Nc,↓reduceIte])
 ·refine wS fun K hK=>?_
  simp only [↓DN,Qa,Qb,Qc,Qd,Qe,Qf,Qg,Qh,reduceCtorEq,↓reduceIte,Na,Nb,Nc,Nk,Nf,Ng,Nh,Za,Zb,Zc,TT,g4,g0,h1,eye_lt_nat,decide_eq_false hi']
  refine hK _ _ ?_;clear hK K
  refine wC fun X Y hX hY=>?_
  simp only [UP,DF,Nc,↓reduceIte,DB]
  refine hY ?_;clear hX hY X Y
  refine awp_exit ?_
  simp only [thenQ,blockQ,if_true]
  refine hK _ _ ?_;clear hK hK2 K2 K
  rw [List.take_of_length_le (by omega)] at hN
  subst hN
  refine wS fun K hK=>?_
  simp only [↓DN,Qa,Qb,Qc,Qd,Qe,Qf,Qg,Qh,reduceCtorEq,↓reduceIte,Na,Nb,Nc,Nk,Nf,Ng,Nh,Za,Zb,Zc,TT,g3]
  refine hK _ _ ?_;clear hK K
  refine awp_ret ?_
  try simp only [thenQ,blockQ]
  simp only [retQ,AEnds,aresL,ares,List.toList_toArray,↓upd_same]; try simp only [UP,DF,Nc,↓reduceIte,DT]
  exact ⟨_,_,hx.weak,AS.le.refl _,rfl,hle⟩
end Go.Proofs.Ytfbbckndpkmfcaa
namespace Go.Proofs.Ytfbbckndpkmfcaa
open Go Go.AM Go.Proofs
variable {Γ : Nat→List AV}
theorem ledS_more {s0 s s' : AS} {p : Nat} {L : LedV} {gs : List GEnt} {gt ge b1 b2 : Nat} (h : LedS s0 s p L gs gt ge b1 b2) (k : s.le s') : LedS s0 s' p L gs gt ge b1 b2 :=
 { h with obj:=k.objs _ _ h.obj,m1:=k.maps _ _ h.m1,m2:=k.maps _ _ h.m2,own:=fun x hx=>⟨k.own _ _ (h.own x hx).1,(h.own x hx).2⟩,gown:=fun q=>⟨k.own _ _ (h.gown q).1,(h.gown q).2⟩,le:=h.le.trans k }
theorem totE_ge0 : ∀ {l : GrpV},(∀ q ∈ l,q.2≠[])→(l.length : Int)≤totE l
 | [],_=>by simp [totE]
 | (k,es) :: l,h=>by
  have:=totE_ge0 fun q hq=>h q (List.mem_cons_of_mem _ hq)
  have h1 : es≠[]:=h (k,es) List.mem_cons_self
  have:=List.length_pos_iff.2 h1
  simp only [totE,List.length_cons]
  omega
theorem totE_geN {L : LedV} (h : L.rises) : (L.gs.length : Int)≤totE L.gs:=totE_ge0 fun q hq=>(h.2.1 q hq).1
theorem totG_tot {gs : List GEnt} : totE (gs.map GEnt.val) = (totG gs : Nat):=by
 induction gs with
 | nil=>rfl
 | cons x gs ih =>
  unfold totG at *
  simp only [List.map_cons,GEnt.val,totE,List.sum_cons] at ih ⊢
  rw [ih]
  omega
theorem ledBucketsR_calls {s0 s : AS} {p : Nat} {L : LedV} {gs : List GEnt} {gt ge b1 b2 : Nat} (h : LedS s0 s p L gs gt ge b1 b2) {l : List Rec} (hr : Rep L l) (hl : l.length≤2 ^ 30) :
  ACalls Try.prog Γ 31 [.ptr p 0] s (fun r s'=>r = intsV (bktsR l) .any∧s' = s):=by
 have h1:=hr.rises.2.2.1
 rw [h.val,totG_tot,hr.count] at h1
 have h2 : gs.length≤totG gs:=by
  have:=totE_geN hr.rises
  rw [h.val,totG_tot] at this
  simpa using this
 refine (ledBuckets_calls (Γ:=Γ) h (by omega) (by omega)).use ?_
 rintro r s' ⟨⟨KL,k1,k2,rfl⟩,rfl⟩
 refine ⟨?_,rfl⟩
 rw [hr.buckets k1 fun b=>?_]
 rw [k2,h.val]
 constructor
 ·rintro ⟨x,hx,e,he,q⟩
  exact ⟨_,List.mem_map_of_mem hx,e,he,q⟩
 ·rintro ⟨q,hq,e,he,k⟩
  obtain ⟨x,hx,rfl⟩:=List.mem_map.1 hq
  exact ⟨x,hx,e,he,k⟩
theorem insB_len (b : Int) (out : List Int) : (insB b out).length≤out.length + 1:=by
 have h:=congrArg List.length (List.takeWhile_append_dropWhile (p:=fun x=>decide (x < b)) (l:=out))
 rw [List.length_append] at h
 unfold insB
 rw [List.length_append,List.length_cons]
 split
 ·rw [List.length_tail]; omega
 ·omega
theorem bkts_len (l0 : List Rec) : ∀ (l : List Rec) (out : List Int),(l.foldl (bktAdd l0) out).length≤out.length + l.length
 | [],out=>by simp
 | r :: l,out=>by
  have ih:=bkts_len l0 l (bktAdd l0 out r)
  have : (bktAdd l0 out r).length≤out.length + 1:=by
   unfold bktAdd
   split
   ·omega
   ·exact insB_len _ _
  rw [List.foldl_cons,List.length_cons]
  omega
theorem find_at {l : List EntV} (h : chainE l) {k : Nat} (hk : k < l.length) : findE l[k].epoch l = some l[k]:=by
 have hlt : ∀ d i,(h1 : i + d + 1 < l.length)→l[i].epoch < (l[i + d + 1]'h1).epoch:=by
  intro d
  induction d with
  | zero=>intro i h1; exact (h i h1).1
  | succ d ih =>
   intro i h1
   have a:=ih i (by omega)
   have b:=(h (i + d + 1) (by omega)).1
   have : i + (d + 1) + 1 = i + d + 1 + 1:=by omega
   simp only [this]
   omega
 unfold findE
 rw [List.find?_eq_some_iff_getElem]
 refine ⟨by simp,k,hk,rfl,fun j hj=>?_⟩
 have:=hlt (k - j - 1) j (by omega)
 have e : j + (k - j - 1) + 1 = k:=by omega
 simp only [e] at this
 simp only [Bool.not_eq_eq_eq_not,Bool.not_true,decide_eq_false_iff_not]
 omega
theorem tells_calls {s0 s : AS} {p q : Nat} {L : LedV} {gs : List GEnt} {gt ge b1 b2 : Nat} (h : LedS s0 s p L gs gt ge b1 b2) {l : List Rec} (hr : Rep L l) (hq : s.objs q = some [recsV l]) (hl : l.length≤2 ^ 30) (other : List UInt8) :
  ACalls Try.prog Γ 12 [.ptr p 0,.ptr q 0,.v (.string ⟨other.toArray⟩)] s (fun r s'=>r = .v (.bool true)∧s' = s):=by
 refine tidyL (Q:=fun r=>r = .v (.bool true)) ?_
 refine acalls_body Try.func12 rfl Try.ntmps12 Try.results12 (by simp) ?_
 refine wS fun K hK=>?_
 simp only [↓DN,Qa,Qb,Qc,Qd,Qe,Qf,Qg,Qh,reduceCtorEq,↓reduceIte,Na,Nb,Nc,Nk,Nf,Ng,Nh,Za,Zb,Zc,TT]
 refine hK _ _ ?_;clear hK K
 refine wS fun K hK=>?_
 simp only [↓DN,Qa,Qb,Qc,Qd,Qe,Qf,Qg,Qh,reduceCtorEq,↓reduceIte,Na,Nb,Nc,Nk,Nf,Ng,Nh,Za,Zb,Zc,TT]
 refine acallk (refGroups_calls hq (by omega)) ?_
 rintro r s1 ⟨⟨x,hx,rfl⟩,hle⟩
 simp only [↓DM,pval,DX,Nz,↓DN,Qa,Qb,Qc,Qd,Qe,Qf,Qg,Qh,reduceCtorEq,↓reduceIte,Na,Nb,Nc,Nk,Nf,Ng,Nh,Za,Zb,Zc,TT]
 refine hK _ _ ?_;clear hK K
 have h1:=ledS_more h hle
 have hq1:=hle.objs _ _ hq
 obtain ⟨N,hN⟩ : ∃ N,N = grpsR l:=⟨_,rfl⟩
 have hgl : gs.length≤totG gs:=by
  have:=totE_geN hr.rises
  rw [h.val,totG_tot] at this
  simpa using this
 have htot:=hr.rises.2.2.1
 rw [h.val,totG_tot,hr.count] at htot
 have hNl : N.length≤2 ^ 30:=by
  have e1 : N.length = gs.length:=by rw [hN,← hr.grps,List.length_map,h.val,List.length_map]
  omega
 have hcn:=ledCount_calls (Γ:=Γ) h1
 have htm:=ledTime_calls (Γ:=Γ) h1
 have hrt:=refTime_calls (Γ:=Γ) hq1 (by omega)
 have hgr:=ledGroups_calls (Γ:=Γ) h1 (by omega)
 have hbk:=ledBucketsR_calls (Γ:=Γ) h1 hr hl
 have hrb:=refBuckets_calls (Γ:=Γ) hq1 (by omega)
 have htx:=texts_calls (Γ:=Γ) N hNl s1
 rw [hr.grps,← hN] at hgr
 rw [hr.count] at hcn
 rw [hr.time] at htm
 rw [← hN] at hx
 have hsm:=ACalls.weaks (.cons (AV.weak.refl _) (.cons hx.weak .nil)) (refSame01_calls (Γ:=Γ) N N (by omega) s1)
 have hbl : (bktsR l).length≤2 ^ 61:=by
  have:=bkts_len l l []
  unfold bktsR
  simp only [List.length_nil] at this
  omega
 have hin:=refInts_calls (Γ:=Γ) (bktsR l) (bktsR l) hbl s1
 rw [decide_eq_true rfl] at hsm hin
 obtain ⟨X,hX⟩ : ∃ X,X = rowC Rec.cells l:=⟨_,rfl⟩
 have hoq : s1.objs q = some [.sl 9 l.length X .any]:=by rw [hX]; exact hq1
 have f1 : ((l.length : Int) != (l.length : Int)) = false:=int_bne_false rfl
 have f2 : (timeR l != timeR l) = false:=int_bne_false rfl
 have hk1 : rowC Rec.cells l = X:=hX.symm
 refine wK fun K hK=>?_
 refine awp_drs_seq T.mixed [] [(1,.v (.int .i64 l.length)),(5,.sl 9 l.length X .any),(10,.v (.int .i64 (timeR l))),(12,.v (.int .i64 (timeR l))),(17,grpsV N),(18,strsV N),(20,.v (.bool true)),(25,intsV (bktsR l) .any),(27,intsV (bktsR l) .any),(28,.v (.bool true))] [0,1,2,3,4,5,6,7,8,9,10,11,12,13,14,15,16,17,18,19,20,21,22,23,24,25,26,27,28,29,30] (by kernel_rfl) ?_
 intro K hK
 simp only [↓AXw_nil,↓AXw_cons,↓AGivS_call,↓AGivS_load,glook_nil,glook_cons,gokB,pval,DX,Nat.reduceBEq,List.toList_toArray,List.map_cons,List.map_nil,aeval,↓DN,Qa,Qb,Qc,Qd,Qe,Qf,Qg,Qh,reduceCtorEq,↓reduceIte,Na,Nb,Nc,Nk,Nf,Ng,Nh,Za,Zb,Zc,TT,hoq,f1,f2]
 refine agivs hcn (agivs htm (agivs hrt (agivs hgr (agivs htx (agivs hsm (agivs hbk (agivs hrb (agivs hin ?_))))))))
 refine hK _ _ ?_
 clear hK
 refine wC fun X Y hX hY=>?_
 simp only [UP,DF,Nc,↓reduceIte,DB]
 refine hY ?_;clear hX hY X Y
 refine awp_skip ?_
 rename_i hK
 refine hK _ _ ?_
 clear hK
 obtain ⟨M,hM⟩ : ∃ M,M = N ++ [other]:=⟨_,rfl⟩
 have hMl : M.length = N.length + 1:=by rw [hM]; simp
 refine wK fun K hK=>?_
 have hJ : ∀ (E : Env) (s2 : AS) (t e : Nat),E 7 = .sl 1 M.length (M.map strC) (.own t e)→E 0 = .ptr p 0→E 1 = .ptr q 0→s.le s2→K E s2:=by
  intro E s2 t e g7 g0 g1 hle2
  refine hK _ _ ?_;clear hK K hcn htm hrt hgr hbk hrb htx hsm hin hx hoq hq1 h1 hle
  refine wK fun K hK=>?_
  refine wS fun K hK=>?_
  simp only [↓DN,Qa,Qb,Qc,Qd,Qe,Qf,Qg,Qh,reduceCtorEq,↓reduceIte,Na,Nb,Nc,Nk,Nf,Ng,Nh,Za,Zb,Zc,TT]
  refine hK _ _ ?_;clear hK K
  refine awp_block ?_
  refine awp_loop (fun E s'=>∃ j : Nat,j≤M.length∧E 8 = .v (.int .i64 j)∧E 7 = .sl 1 M.length (M.map strC) (.own t e)∧E 0 = .ptr p 0∧E 1 = .ptr q 0∧s.le s')
   (fun E _=>match E 8 with | .v (.int _ i)=>M.length - i.toNat | _=>0) ?_ ?_
  ·exact ⟨0,Nat.zero_le _,by simp only [upd,↓reduceIte]; rfl,by simp only [upd,g7,Nc,↓reduceIte],by simp only [upd,g0,Nc,↓reduceIte],by simp only [upd,g1,Nc,↓reduceIte],hle2⟩
  clear g7 g0 g1 hle2
  rintro E1 s3 ⟨j,hj,g8,g7,g0,g1,hle⟩ -
  refine wK fun K2 hK2=>?_
  by_cases hj' : j < M.length
  ·refine wS fun K hK=>?_
   simp only [↓DN,Qa,Qb,Qc,Qd,Qe,Qf,Qg,Qh,reduceCtorEq,↓reduceIte,Na,Nb,Nc,Nk,Nf,Ng,Nh,Za,Zb,Zc,TT,g8,g7,eye_lt_nat,decide_eq_true hj']
   refine hK _ _ ?_;clear hK K
   refine wC fun X Y hX hY=>?_
   simp only [UP,DF,Nc,↓reduceIte,DB]
   refine hX ?_;clear hX hY X Y
   refine awp_skip ?_
   refine hK2 _ _ ?_;clear hK2 K2
   refine wK fun K3 hK3=>?_
   refine awp_block ?_
   have hge : (0 : Int)≤((j : Nat) : Int):=by omega
   have hat:=take_map strC hj'
   have hend : ∀ (E : Env) (s4 : AS),E 8 = .v (.int .i64 j)→E 7 = .sl 1 M.length (M.map strC) (.own t e)→E 0 = .ptr p 0→E 1 = .ptr q 0→s.le s4→K3 E s4:=by
    intro E s4 f8 f7 f0 f1 fle
    refine hK3 _ _ ?_;clear hK3 K3
    refine wE fun K hK=>?_
    simp only [↓DN,Qa,Qb,Qc,Qd,Qe,Qf,Qg,Qh,reduceCtorEq,↓reduceIte,Na,Nb,Nc,Nk,Nf,Ng,Nh,Za,Zb,Zc,TT,f8,eye_succM j (by omega)]
    refine hK _ _ ?_;clear hK K
    refine ⟨⟨j + 1,hj',by simp only [upd,Nc,↓reduceIte],by simp only [upd,f7,Nc,↓reduceIte],by simp only [upd,f0,Nc,↓reduceIte],by simp only [upd,f1,Nc,↓reduceIte],fle⟩,?_⟩
    simp only [g8,upd,↓reduceIte]
    omega
   clear hK3
   generalize M[j] = g at *
   generalize hXM : M.map strC = XM at *
   unfold strC at hat
   have h3:=ledS_more h hle
   have hq3:=hle.objs _ _ hq
   have hen:=refEntries_calls (Γ:=Γ) hq3 (by omega) g
   refine wS fun K hK=>?_
   simp only [↓DN,Qa,Qb,Qc,Qd,Qe,Qf,Qg,Qh,reduceCtorEq,↓reduceIte,Na,Nb,Nc,Nk,Nf,Ng,Nh,Za,Zb,Zc,TT,g1,g7,g8,hge,eye_lt_nat,hj',hat]
   refine acallk hen ?_
   rintro r s4 ⟨rfl,rfl⟩
   simp only [↓AXq_nil,↓AXq_cons,pval,↓AXw_nil,↓AXw_cons,↓AGivS_call,↓AGivS_load,glook_nil,glook_cons,gokB,pval,DX,Nat.reduceBEq,List.toList_toArray,List.map_cons,List.map_nil,aeval,DX,Nat.reduceBEq,↓DN,Qa,Qb,Qc,Qd,Qe,Qf,Qg,Qh,reduceCtorEq,↓reduceIte,Na,Nb,Nc,Nk,Nf,Ng,Nh,Za,Zb,Zc,TT]
   refine hK _ _ ?_;clear hK K
   have hin:=hr.rises.inv (by rw [hr.count]; omega)
   have hle':=ledEntries_calls (Γ:=Γ) h3 hin g
   have hla:=ledLast_calls (Γ:=Γ) h3 (hin.gs h.val) g
   rw [hr.ents] at hle' hla
   have hW : entsR g l = []∨okE L (entsR g l):=by
    rw [← hr.ents]
    rcases entsOf_mem (g:=g) (l:=L.gs) with a | ⟨y,a,_,b⟩
    ·exact .inl a
    ·exact .inr (by rw [← b]; exact hr.rises.2.1 y a)
   have hWl : (entsR g l).length≤2 ^ 30:=by
    have : (entsR g l).length≤l.length:=by
     unfold entsR
     rw [List.length_map]
     exact Nat.le_trans (List.length_filter_le _ _) (by simp)
    omega
   have hfi:=fun (s' : AS) (k : s.le s') ep=>ledFind_calls (Γ:=Γ) (ledS_more h k) (hin.gs h.val) g ep
   simp only [hr.ents] at hfi
   generalize entsR g l = Wn at *
   have hsm:=refSame28_calls (Γ:=Γ) Wn Wn (by omega) s4
   rw [decide_eq_true rfl] at hsm
   refine wK fun K hK=>?_
   refine wS fun K hK=>?_
   simp only [↓DN,Qa,Qb,Qc,Qd,Qe,Qf,Qg,Qh,reduceCtorEq,↓reduceIte,Na,Nb,Nc,Nk,Nf,Ng,Nh,Za,Zb,Zc,TT,g0,g7,g8,hge,eye_lt_nat,hj',hat]
   refine acallk (ACalls.weaks (.cons (AV.weak.refl _) (.cons AV.weak_any .nil)) hle') ?_
   rintro r s5 ⟨rfl,rfl⟩
   simp only [↓DM,pval,DX,Nz,↓DN,Qa,Qb,Qc,Qd,Qe,Qf,Qg,Qh,reduceCtorEq,↓reduceIte,Na,Nb,Nc,Nk,Nf,Ng,Nh,Za,Zb,Zc,TT]
   refine acallk hsm ?_
   rintro r s6 ⟨rfl,rfl⟩
   simp only [↓DM,pval,DX,Nz,↓DN,Qa,Qb,Qc,Qd,Qe,Qf,Qg,Qh,reduceCtorEq,↓reduceIte,Na,Nb,Nc,Nk,Nf,Ng,Nh,Za,Zb,Zc,TT]
   refine hK _ _ ?_;clear hK K
   refine wC fun X Y hX hY=>?_
   simp only [UP,DF,Nc,↓reduceIte,DB]
   refine hY ?_;clear hX hY X Y
   refine awp_skip ?_
   refine hK _ _ ?_;clear hK K
   have hrow:=fun i (h : i < Wn.length)=>row_at (c:=EntV.cells) (k:=5) (fun _=>rfl) h
   obtain ⟨XW,hXW⟩ : ∃ XW,XW = rowC EntV.cells Wn:=⟨_,rfl⟩
   rw [← hXW] at hrow
   have hents : entsV Wn = .sl 5 Wn.length XW .any:=by rw [hXW]; rfl
   rw [hents]
   obtain ⟨le,hlee⟩ : ∃ le,le = lastE Wn:=⟨_,rfl⟩
   obtain ⟨bW,hbW⟩ : ∃ b,b = decide (Wn≠[]):=⟨_,rfl⟩
   rw [← hlee,← hbW] at hla
   have hne0:=entNe le le
   obtain ⟨a1,a2,a3,a4,a5⟩:=le
   unfold EntV.cells at hla hne0
   simp only [ne_eq,not_true_eq_false,decide_false] at hla hne0
   refine wS fun K hK=>?_
   simp only [↓DN,Qa,Qb,Qc,Qd,Qe,Qf,Qg,Qh,reduceCtorEq,↓reduceIte,Na,Nb,Nc,Nk,Nf,Ng,Nh,Za,Zb,Zc,TT,g0,g7,g8,hge,eye_lt_nat,hj',hat]
   refine acallk (ACalls.weaks (.cons (AV.weak.refl _) (.cons AV.weak_any .nil)) hla) ?_
   rintro r s7 ⟨rfl,rfl⟩
   simp only [↓DM,pval,DX,Nz,↓DN,Qa,Qb,Qc,Qd,Qe,Qf,Qg,Qh,reduceCtorEq,↓reduceIte,Na,Nb,Nc,Nk,Nf,Ng,Nh,Za,Zb,Zc,TT]
   intro o10 q10
   refine hK _ _ ?_;clear hK K
   have hl8:=AS.le_set hle (AS.le_none hle q10) [.v (.int .i64 a1),.v (.int .i64 a2),.v (.int .i64 a3),.v (.int .i64 a4),.v (.int .i64 a5)]
   have ho10:=AS.set_objs_same s7 o10 [.v (.int .i64 a1),.v (.int .i64 a2),.v (.int .i64 a3),.v (.int .i64 a4),.v (.int .i64 a5)]
   generalize s7.set o10 [.v (.int .i64 a1),.v (.int .i64 a2),.v (.int .i64 a3),.v (.int .i64 a4),.v (.int .i64 a5)] = s8 at hl8 ho10 ⊢
   refine wK fun K hK=>?_
   have hJ2 : ∀ (E : Env),E 9 = .sl 5 Wn.length XW .any→E 8 = .v (.int .i64 j)→E 7 = .sl 1 M.length XM (.own t e)→E 0 = .ptr p 0→E 1 = .ptr q 0→K E s8:=by
    intro E k9 k8 k7 k0 k1
    refine hK _ _ ?_;clear hK K
    refine wK fun K hK=>?_
    refine wS fun K hK=>?_
    simp only [↓DN,Qa,Qb,Qc,Qd,Qe,Qf,Qg,Qh,reduceCtorEq,↓reduceIte,Na,Nb,Nc,Nk,Nf,Ng,Nh,Za,Zb,Zc,TT]
    refine hK _ _ ?_;clear hK K
    refine awp_block ?_
    refine awp_loop (fun E s'=>∃ k : Nat,k≤Wn.length∧E 12 = .v (.int .i64 k)∧E 9 = .sl 5 Wn.length XW .any∧E 8 = .v (.int .i64 j)∧E 7 = .sl 1 M.length XM (.own t e)∧E 0 = .ptr p 0∧E 1 = .ptr q 0∧s.le s')
     (fun E _=>match E 12 with | .v (.int _ i)=>Wn.length - i.toNat | _=>0) ?_ ?_
    ·exact ⟨0,Nat.zero_le _,by simp only [upd,↓reduceIte]; rfl,by simp only [upd,k9,Nc,↓reduceIte],by simp only [upd,k8,Nc,↓reduceIte],by simp only [upd,k7,Nc,↓reduceIte],by simp only [upd,k0,Nc,↓reduceIte],by simp only [upd,k1,Nc,↓reduceIte],hl8⟩
    clear k9 k8 k7 k0 k1
    rintro E2 s9 ⟨k,hk,k12,k9,k8,k7,k0,k1,hl9⟩ -
    refine wK fun K2 hK2=>?_
    by_cases hk' : k < Wn.length
    ·refine wS fun K hK=>?_
     simp only [↓DN,Qa,Qb,Qc,Qd,Qe,Qf,Qg,Qh,reduceCtorEq,↓reduceIte,Na,Nb,Nc,Nk,Nf,Ng,Nh,Za,Zb,Zc,TT,k12,k9,eye_lt_nat,decide_eq_true hk']
     refine hK _ _ ?_;clear hK K
     refine wC fun X Y hX hY=>?_
     simp only [UP,DF,Nc,↓reduceIte,DB]
     refine hX ?_;clear hX hY X Y
     refine awp_skip ?_
     refine hK2 _ _ ?_;clear hK2 K2
     refine wK fun K4 hK4=>?_
     refine awp_block ?_
     have hgk : (0 : Int)≤((k : Nat) : Int):=by omega
     have hck : chainE Wn:=by
      rcases hW with rfl | hok
      ·cases hk'
      ·exact hok.2.2.1
     have hfk:=fun s' (k' : s.le s')=>hfi s' k' Wn[k].epoch
     simp only [find_at hck hk'] at hfk
     have hrk:=hrow k hk'
     have hnk:=entNe Wn[k] Wn[k]
     generalize Wn[k] = d at *
     obtain ⟨d1,d2,d3,d4,d5⟩:=d
     unfold EntV.cells at hrk hfk hnk
     simp only [ne_eq,not_true_eq_false,decide_false,Option.getD_some,Option.isSome_some] at hrk hfk hnk
     refine awp_drs2_seq T.mixed [11,15,16] [] 11 15 [0,1,2,3,4,5,6,7,8,9,10,11,12,13,14,15,16,17] [0,1,2,3,4,5,6,7,8,9,10,15,11,12,13,14,16,17] (by kernel_rfl) ?_
     intro K hK
     have hJ3 : ∀ (E : Env) (s10 : AS) (o13 : Nat),E 13 = .ptr o13 0→E 14 = .v (.bool true)→s10.objs o13 = some [.v (.int .i64 d1),.v (.int .i64 d2),.v (.int .i64 d3),.v (.int .i64 d4),.v (.int .i64 d5)]→E 12 = .v (.int .i64 k)→E 9 = .sl 5 Wn.length XW .any→E 8 = .v (.int .i64 j)→E 7 = .sl 1 M.length XM (.own t e)→E 0 = .ptr p 0→E 1 = .ptr q 0→s.le s10→K E s10:=by
      intro E s10 o13 k13 k14 ho13 k12' k9 k8 k7 k0 k1 hl10
      refine hK _ _ ?_;clear hK K
      refine awp_drw_seq T.mixed [3] (by kernel_rfl) ?_
      intro K hK
      simp only [↓AXq_nil,↓AXq_cons,pval,↓AXw_nil,↓AXw_cons,↓AGivS_call,↓AGivS_load,glook_nil,glook_cons,gokB,pval,DX,Nat.reduceBEq,List.toList_toArray,List.map_cons,List.map_nil,aeval,DX,Nat.reduceBEq,↓DN,Qa,Qb,Qc,Qd,Qe,Qf,Qg,Qh,reduceCtorEq,↓reduceIte,Na,Nb,Nc,Nk,Nf,Ng,Nh,Za,Zb,Zc,TT,k14,k13,ho13,k9,k12',hgk,eye_lt_nat,hk',hrk,hnk]
      refine hK _ _ ?_;clear hK K
      refine wC fun X Y hX hY=>?_
      simp only [UP,DF,Nc,↓reduceIte,DB]
      refine hY ?_;clear hX hY X Y
      refine awp_skip ?_
      simp only [blockQ,thenQ]
      refine hK4 _ _ ?_;clear hK4 K4
      refine wE fun K hK=>?_
      simp only [↓DN,Qa,Qb,Qc,Qd,Qe,Qf,Qg,Qh,reduceCtorEq,↓reduceIte,Na,Nb,Nc,Nk,Nf,Ng,Nh,Za,Zb,Zc,TT,k12',eye_succM k (by omega)]
      refine hK _ _ ?_;clear hK K
      refine ⟨⟨k + 1,hk',by simp only [upd,Nc,↓reduceIte],by simp only [upd,k9,Nc,↓reduceIte],by simp only [upd,k8,Nc,↓reduceIte],by simp only [upd,k7,Nc,↓reduceIte],by simp only [upd,k0,Nc,↓reduceIte],by simp only [upd,k1,Nc,↓reduceIte],hl10⟩,?_⟩
      simp only [k12,upd,↓reduceIte]
      omega
     refine ⟨?_,?_⟩
     ·simp only [↓AXw_nil,↓AXw_cons,↓AGivS_call,↓AGivS_load,glook_nil,glook_cons,gokB,pval,DX,Nat.reduceBEq,List.toList_toArray,List.map_cons,List.map_nil,aeval,↓DN,Qa,Qb,Qc,Qd,Qe,Qf,Qg,Qh,reduceCtorEq,↓reduceIte,Na,Nb,Nc,Nk,Nf,Ng,Nh,Za,Zb,Zc,TT,k0,k7,k8,k9,k12,hge,hgk,eye_lt_nat,hj',hk',hat,hrk]
      refine acallk (ACalls.weaks (.cons (AV.weak.refl _) (.cons AV.weak_any (.cons (AV.weak.refl _) .nil))) (hfk _ hl9)) ?_
      rintro r s10 ⟨rfl,rfl⟩
      simp only [↓AXq_nil,↓AXq_cons,pval,↓AXw_nil,↓AXw_cons,↓AGivS_call,↓AGivS_load,glook_nil,glook_cons,gokB,pval,DX,Nat.reduceBEq,List.toList_toArray,List.map_cons,List.map_nil,aeval,DX,Nat.reduceBEq,↓DN,Qa,Qb,Qc,Qd,Qe,Qf,Qg,Qh,reduceCtorEq,↓reduceIte,Na,Nb,Nc,Nk,Nf,Ng,Nh,Za,Zb,Zc,TT]
      intro o13 q13
      exact hJ3 _ _ o13 (by simp only [upd,Nc,↓reduceIte]) (by simp only [upd,Nc,↓reduceIte]) (AS.set_objs_same _ _ _) (by simp only [upd,k12,Nc,↓reduceIte]) (by simp only [upd,k9,Nc,↓reduceIte]) (by simp only [upd,k8,Nc,↓reduceIte]) (by simp only [upd,k7,Nc,↓reduceIte]) (by simp only [upd,k0,Nc,↓reduceIte]) (by simp only [upd,k1,Nc,↓reduceIte]) (AS.le_set hl9 (AS.le_none hl9 q13) _)
     ·simp only [↓AXw_nil,↓AXw_cons,↓AGivS_call,↓AGivS_load,glook_nil,glook_cons,gokB,pval,DX,Nat.reduceBEq,List.toList_toArray,List.map_cons,List.map_nil,aeval,↓DN,Qa,Qb,Qc,Qd,Qe,Qf,Qg,Qh,reduceCtorEq,↓reduceIte,Na,Nb,Nc,Nk,Nf,Ng,Nh,Za,Zb,Zc,TT,k0,k7,k8,k9,k12,hge,hgk,eye_lt_nat,hj',hk',hat,hrk]
      intro o13 q13
      have hl10:=fun z=>AS.le_set hl9 (AS.le_none hl9 q13) z
      refine acallk (ACalls.weaks (.cons (AV.weak.refl _) (.cons AV.weak_any (.cons (AV.weak.refl _) .nil))) (hfk _ (hl10 _))) ?_
      rintro r s10 ⟨rfl,rfl⟩
      simp only [↓AXq_nil,↓AXq_cons,pval,↓AXw_nil,↓AXw_cons,↓AGivS_call,↓AGivS_load,glook_nil,glook_cons,gokB,pval,DX,Nat.reduceBEq,List.toList_toArray,List.map_cons,List.map_nil,aeval,DX,Nat.reduceBEq,↓DN,Qa,Qb,Qc,Qd,Qe,Qf,Qg,Qh,reduceCtorEq,↓reduceIte,Na,Nb,Nc,Nk,Nf,Ng,Nh,Za,Zb,Zc,TT,AS.set_objs_same]
      exact hJ3 _ _ o13 (by simp only [upd,Nc,↓reduceIte]) (by simp only [upd,Nc,↓reduceIte]) (AS.set_objs_same _ _ _) (by simp only [upd,k12,Nc,↓reduceIte]) (by simp only [upd,k9,Nc,↓reduceIte]) (by simp only [upd,k8,Nc,↓reduceIte]) (by simp only [upd,k7,Nc,↓reduceIte]) (by simp only [upd,k0,Nc,↓reduceIte]) (by simp only [upd,k1,Nc,↓reduceIte]) (hl10 _)
    ·refine wS fun K hK=>?_
     simp only [↓DN,Qa,Qb,Qc,Qd,Qe,Qf,Qg,Qh,reduceCtorEq,↓reduceIte,Na,Nb,Nc,Nk,Nf,Ng,Nh,Za,Zb,Zc,TT,k12,k9,eye_lt_nat,decide_eq_false hk']
     refine hK _ _ ?_;clear hK K
     refine wC fun X Y hX hY=>?_
     simp only [UP,DF,Nc,↓reduceIte,DB]
     refine hY ?_;clear hX hY X Y
     refine awp_exit ?_
     simp only [thenQ,blockQ,if_true]
     refine hK _ _ ?_;clear hK hK2 K2 K
     have hfn:=hfi s9 hl9 (-1)
     have hnone : findE (-1) Wn = none:=by
      unfold findE
      rw [List.find?_eq_none]
      intro y hy
      rcases hW with rfl | hok
      ·cases hy
      ·have:=(hok.2.2.2 y hy).2.2.1
       simp
       omega
     rw [hnone] at hfn
     unfold EntV.cells EntV.nought at hfn
     simp only [Option.getD_none,Option.isSome_none] at hfn
     refine wS fun K hK=>?_
     simp only [↓DN,Qa,Qb,Qc,Qd,Qe,Qf,Qg,Qh,reduceCtorEq,↓reduceIte,Na,Nb,Nc,Nk,Nf,Ng,Nh,Za,Zb,Zc,TT,k0,k7,k8,hge,eye_lt_nat,hj',hat]
     refine acallk (ACalls.weaks (.cons (AV.weak.refl _) (.cons AV.weak_any (.cons (AV.weak.refl _) .nil))) hfn) ?_
     rintro r s10 ⟨rfl,rfl⟩
     simp only [↓AXq_nil,↓AXq_cons,pval,↓AXw_nil,↓AXw_cons,↓AGivS_call,↓AGivS_load,glook_nil,glook_cons,gokB,pval,DX,Nat.reduceBEq,List.toList_toArray,List.map_cons,List.map_nil,aeval,DX,Nat.reduceBEq,↓DN,Qa,Qb,Qc,Qd,Qe,Qf,Qg,Qh,reduceCtorEq,↓reduceIte,Na,Nb,Nc,Nk,Nf,Ng,Nh,Za,Zb,Zc,TT]
     intro o15 q15
     refine hK _ _ ?_;clear hK K
     refine wS fun K hK=>?_
     simp only [↓DN,Qa,Qb,Qc,Qd,Qe,Qf,Qg,Qh,reduceCtorEq,↓reduceIte,Na,Nb,Nc,Nk,Nf,Ng,Nh,Za,Zb,Zc,TT]
     refine hK _ _ ?_;clear hK K
     refine wC fun X Y hX hY=>?_
     simp only [UP,DF,Nc,↓reduceIte,DB]
     refine hY ?_;clear hX hY X Y
     refine awp_skip ?_
     simp only [blockQ,thenQ]
     exact hend _ _ (by simp only [upd,k8,Nc,↓reduceIte]) (by simp only [upd,k7,Nc,↓reduceIte]) (by simp only [upd,k0,Nc,↓reduceIte]) (by simp only [upd,k1,Nc,↓reduceIte]) (AS.le_set hl9 (AS.le_none hl9 q15) _)
   clear hK
   rcases hW with rfl | hok
   ·obtain rfl : bW = false:=by rw [hbW]; rfl
    have hz : aeqS Try.prog 54 .neq [.v (.int .i64 a1),.v (.int .i64 a2),.v (.int .i64 a3),.v (.int .i64 a4),.v (.int .i64 a5)] [.v (.int .i64 0),.v (.int .i64 0),.v (.int .i64 0),.v (.int .i64 0),.v (.int .i64 0)] = some (.v (.bool false)):=by
     have e : (⟨a1,a2,a3,a4,a5⟩ : EntV) = EntV.nought:=hlee
     have:=entNe EntV.nought EntV.nought
     rw [← e] at this
     have e2 : EntV.nought.cells = [.v (.int .i64 0),.v (.int .i64 0),.v (.int .i64 0),.v (.int .i64 0),.v (.int .i64 0)]:=rfl
     rw [← e2,← e]
     simpa [EntV.cells] using this
    refine awp_mrk_seq T.mixed [(o10,[.v (.int .i64 a1),.v (.int .i64 a2),.v (.int .i64 a3),.v (.int .i64 a4),.v (.int .i64 a5)])] [] [8,22] [] (by kernel_rfl) (by simp only [Pres_cons,Pres_nil,and_true]; simp [AS.set,upd,ho10]) ?_
    intro K hK
    simp only [↓AXr_nil,↓AXr_cons,gval,lval,fzGet_cons,fzGet_nil,Pres_cons,Pres_nil,List.any_cons,List.any_nil,List.contains_cons,List.contains_nil,Nat.reduceBEq,Bool.or_false,Bool.or_true,Bool.or_self,Bool.false_or,↓DN,Qa,Qb,Qc,Qd,Qe,Qf,Qg,Qh,reduceCtorEq,↓reduceIte,Na,Nb,Nc,Nk,Nf,Ng,Nh,Za,Zb,Zc,TT,ho10,hz,show decide ((0 : Int) < ((0 : Nat) : Int)) = false from rfl]
    refine hK _ _ ?_;clear hK K
    refine wC fun X Y hX hY=>?_
    simp only [UP,DF,Nc,↓reduceIte,DB]
    refine hY ?_;clear hX hY X Y
    refine awp_skip ?_
    exact hJ2 _ (by simp only [upd,Nc,↓reduceIte]; rfl) (by simp only [upd,g8,Nc,↓reduceIte]) (by simp only [upd,g7,Nc,↓reduceIte]) (by simp only [upd,g0,Nc,↓reduceIte]) (by simp only [upd,g1,Nc,↓reduceIte])
   ·have hWp : 0 < Wn.length:=List.length_pos_iff.2 hok.1
    obtain rfl : bW = true:=by rw [hbW,decide_eq_true hok.1]
    have e1 : decide ((0 : Int) < (Wn.length : Int)) = true:=by rw [decide_eq_true_iff]; omega
    have e2 : isub .i64 (Wn.length : Int) 1 = ((Wn.length - 1 : Nat) : Int):=by rw [dec_i64 (by omega) (by omega)]; omega
    have hgw : (0 : Int)≤((Wn.length - 1 : Nat) : Int):=by omega
    have hlw : Wn.length - 1 < Wn.length:=by omega
    have hrw:=hrow (Wn.length - 1) hlw
    have hll : Wn[Wn.length - 1] = ⟨a1,a2,a3,a4,a5⟩:=by
     rw [hlee]
     unfold lastE
     rw [List.getLastD_eq_getLast?,List.getLast?_eq_getElem?,List.getElem?_eq_getElem (by omega)]
     rfl
    rw [hll] at hrw
    unfold EntV.cells at hrw
    simp only at hrw
    refine awp_mrk_seq T.mixed [(o10,[.v (.int .i64 a1),.v (.int .i64 a2),.v (.int .i64 a3),.v (.int .i64 a4),.v (.int .i64 a5)])] [] [8,22] [] (by kernel_rfl) (by simp only [Pres_cons,Pres_nil,and_true]; simp [AS.set,upd,ho10]) ?_
    intro K hK
    simp only [↓AXr_nil,↓AXr_cons,gval,lval,fzGet_cons,fzGet_nil,Pres_cons,Pres_nil,List.any_cons,List.any_nil,List.contains_cons,List.contains_nil,Nat.reduceBEq,Bool.or_false,Bool.or_true,Bool.or_self,Bool.false_or,↓DN,Qa,Qb,Qc,Qd,Qe,Qf,Qg,Qh,reduceCtorEq,↓reduceIte,Na,Nb,Nc,Nk,Nf,Ng,Nh,Za,Zb,Zc,TT,ho10,hne0,e1,e2,hgw,hlw,eye_lt_nat,hrw]
    refine hK _ _ ?_;clear hK K
    refine wC fun X Y hX hY=>?_
    simp only [UP,DF,Nc,↓reduceIte,DB]
    refine hY ?_;clear hX hY X Y
    refine awp_skip ?_
    exact hJ2 _ (by simp only [upd,Nc,↓reduceIte]) (by simp only [upd,g8,Nc,↓reduceIte]) (by simp only [upd,g7,Nc,↓reduceIte]) (by simp only [upd,g0,Nc,↓reduceIte]) (by simp only [upd,g1,Nc,↓reduceIte])
  ·refine wS fun K hK=>?_
   simp only [↓DN,Qa,Qb,Qc,Qd,Qe,Qf,Qg,Qh,reduceCtorEq,↓reduceIte,Na,Nb,Nc,Nk,Nf,Ng,Nh,Za,Zb,Zc,TT,g8,g7,eye_lt_nat,decide_eq_false hj']
   refine hK _ _ ?_;clear hK K
   refine wC fun X Y hX hY=>?_
   simp only [UP,DF,Nc,↓reduceIte,DB]
   refine hY ?_;clear hX hY X Y
   refine awp_exit ?_
   simp only [thenQ,blockQ,if_true]
   refine hK _ _ ?_;clear hK hK2 K2 K
   refine wS fun K hK=>?_
   simp only [↓DN,Qa,Qb,Qc,Qd,Qe,Qf,Qg,Qh,reduceCtorEq,↓reduceIte,Na,Nb,Nc,Nk,Nf,Ng,Nh,Za,Zb,Zc,TT]
   refine hK _ _ ?_;clear hK K
   refine awp_ret ?_
   try simp only [thenQ,blockQ]
   simp only [retQ,AEnds,aresL,ares,List.toList_toArray,↓upd_same]; try simp only [UP,DF,Nc,↓reduceIte,DT]
   exact ⟨_,_,AV.weak.refl _,AS.le.refl _,rfl,hle⟩
 clear hK
 have hMm : M.map strC = N.map strC ++ [.v (.string ⟨other.toArray⟩)]:=by rw [hM,List.map_append]; rfl
 rcases hx with ⟨rfl,h0,hL0⟩ | ⟨t,e,rfl,ht,ht0⟩
 ·unfold nilS
  refine wE fun K hK=>?_
  simp only [↓DN,Qa,Qb,Qc,Qd,Qe,Qf,Qg,Qh,reduceCtorEq,↓reduceIte,Na,Nb,Nc,Nk,Nf,Ng,Nh,Za,Zb,Zc,TT,List.replicate_succ,List.replicate_zero]
  intro t ht
  refine hK _ _ (hJ _ _ t 0 ?_ (by simp only [upd,initE,List.getD_cons_zero,List.getD_cons_succ,Nc,↓reduceIte]) (by simp only [upd,initE,List.getD_cons_zero,List.getD_cons_succ,Nc,↓reduceIte]) (AS.le_gain hle (own_none_le hle ht) 0))
  rw [hMm,hMl,h0,hL0]
  simp only [upd,Nc,↓reduceIte]
  rfl
 ·refine wE fun K hK=>?_
  simp only [↓DN,Qa,Qb,Qc,Qd,Qe,Qf,Qg,Qh,reduceCtorEq,↓reduceIte,Na,Nb,Nc,Nk,Nf,Ng,Nh,Za,Zb,Zc,TT,ht,List.replicate_succ,List.replicate_zero]
  refine ⟨by omega,by omega,hK _ _ (hJ _ _ t (e + 1) ?_ (by simp only [upd,initE,List.getD_cons_zero,List.getD_cons_succ,Nc,↓reduceIte]) (by simp only [upd,initE,List.getD_cons_zero,List.getD_cons_succ,Nc,↓reduceIte]) (AS.le_gain hle ht0 _))⟩
  rw [hMm,hMl]
  simp only [upd,Nc,↓reduceIte]
end Go.Proofs.Ytfbbckndpkmfcaa
namespace Go.Proofs.Ytfbbckndpkmfcaa
open Go Go.AM Go.Proofs
variable {Γ : Nat→List AV}
theorem rep_ep {L : LedV} {l : List Rec} (h : Rep L l) (g : List UInt8) : ∀ e ∈ entsR g l,0≤e.epoch∧e.epoch≤1048576:=by
  intro e he
  rw [← h.ents] at he
  rcases entsOf_mem (g:=g) (l:=L.gs) with a | ⟨y,a,_,b⟩
  · rw [a] at he; cases he
  · rw [← b] at he
    exact ((h.rises.2.1 y a).2.2.2 e he).2.2
theorem rep_step {L : LedV} {l : List Rec} (h : Rep L l) (r : Rec) : Rep (addV L r) (addR l r):=by
  unfold addR
  rw [← h.check r]
  by_cases hv : checkV L r = 0
  · rw [if_pos hv]; exact h.add hv
  · rw [if_neg hv,add_err hv]; exact h
theorem addR_len (l : List Rec) (r : Rec) : (addR l r).length≤l.length + 1:=by
  unfold addR
  split
  · simp
  · omega
end Go.Proofs.Ytfbbckndpkmfcaa
namespace Go.AM
open Go
structure RgS (s : AS) (b r : Nat) (kv : List (Value × AV)) (es : Array MapEntry) (c : Nat) (left : List (Value × AV)) (s' : AS) : Prop where
  m1 : s'.maps b = some (.fix kv es c)
  mr : ∃ cur,s'.maps r = some (.iter b es c left cur)
  le : s.le (s'.putM b (.map kv))
  mem : ∀ x ∈ left,x ∈ kv
  oth : ∀ b' m,b'≠b→s.maps b' = some m→s'.maps b' = some m
variable {s : AS} {b r : Nat} {kv : List (Value × AV)} {es : Array MapEntry} {c : Nat} {left : List (Value × AV)} {s' : AS}
theorem RgS.start (hb : s.maps b = some (.map kv)) (hr : s.maps r = none) : RgS s b r kv es c kv ((s.putM b (.fix kv es c)).putM r (.iter b es c kv none)):=by
  have hne : b≠r:=by rintro rfl; rw [hb] at hr; cases hr
  have hoth : ∀ b' m,b'≠b→s.maps b' = some m→((s.putM b (.fix kv es c)).putM r (.iter b es c kv none)).maps b' = some m:=by
    intro b' m h1 h2
    have : b'≠r:=by rintro rfl; rw [hr] at h2; cases h2
    simpa [AS.putM,upd,this,h1] using h2
  refine ⟨by simp [AS.putM,upd,hne],⟨none,by simp [AS.putM]⟩,⟨fun _ _ q=>q,fun _ _ q=>q,fun b' m q=>?_⟩,fun _ q=>q,hoth⟩
  by_cases e : b' = b
  · subst e; rw [hb] at q; cases q; simp [AS.putM]
  · have:=hoth b' m e q
    simpa [AS.putM,upd,e] using this
theorem RgS.next (h : RgS s b r kv es c left s') (hb : s.maps b = some (.map kv)) (hr : s.maps r = none) {i : Nat} (hi : i < left.length) :
    RgS s b r kv es c (left.eraseIdx i) (s'.putM r (.iter b es c (left.eraseIdx i) (some left[i]))):=by
  have hne : b≠r:=by rintro rfl; rw [hb] at hr; cases hr
  refine ⟨by simpa [AS.putM,upd,hne] using h.m1,⟨some left[i],by simp [AS.putM]⟩,AS.le_putM h.le hr hne.symm,fun x hx=>h.mem x (((erase_facts hi).1 x).2 (.inr hx)),fun b' m h1 h2=>?_⟩
  have : b'≠r:=by rintro rfl; rw [hr] at h2; cases h2
  simpa [AS.putM,upd,this] using h.oth b' m h1 h2
end Go.AM
namespace Go.Proofs.Ytfbbckndpkmfcaa
open Go Go.AM Go.Proofs
variable {Γ : Nat→List AV}
theorem bytesEq28_calls (a b : List UInt8) (s : AS) : ACalls Try.prog Γ 39 [bytesV a .any,bytesV b .any] s (fun r s'=>r = .v (.bool (decide (a = b)))∧s' = s):=by
 refine acalls_body Try.func39 rfl Try.ntmps39 Try.results39 (by simp) ?_
 unfold bytesV
 refine wS fun K hK=>?_
 simp only [↓DN,Qa,Qb,Qc,Qd,Qe,Qf,Qg,Qh,reduceCtorEq,↓reduceIte,Na,Nb,Nc,Nk,Nf,Ng,Nh,Za,Zb,Zc,TT]
 refine hK _ _ ?_;clear hK K
 refine wS fun K hK=>?_
 simp only [↓DN,Qa,Qb,Qc,Qd,Qe,Qf,Qg,Qh,reduceCtorEq,↓reduceIte,Na,Nb,Nc,Nk,Nf,Ng,Nh,Za,Zb,Zc,TT]
 refine hK _ _ ?_;clear hK K
 refine awp_ret ?_
 try simp only [thenQ,blockQ]
 simp only [retQ,AEnds,aresL,ares,List.toList_toArray,↓upd_same]; try simp only [UP,DF,Nc,↓reduceIte,DT]
 refine ⟨_,_,AV.weak.refl _,AS.le.refl _,?_,rfl⟩
 first | rw [bytes_eq] | (rw [show (a == b) = decide (a = b) from by rw [Bool.eq_iff_iff]; simp])
theorem slEq_calls (l : List EntV) (hl : l.length≤2 ^ 40) (s : AS) : ACalls Try.prog Γ 42 [entsV l,entsV l] s (fun r s'=>r = .v (.bool true)∧s' = s):=by
 refine acalls_body Try.func42 rfl Try.ntmps42 Try.results42 (by simp) ?_
 have hrow:=fun i (h : i < l.length)=>row_at (c:=EntV.cells) (k:=5) (fun _=>rfl) h
 unfold entsV
 generalize rowC EntV.cells l = X at *
 refine wS fun K hK=>?_
 simp only [↓DN,Qa,Qb,Qc,Qd,Qe,Qf,Qg,Qh,reduceCtorEq,↓reduceIte,Na,Nb,Nc,Nk,Nf,Ng,Nh,Za,Zb,Zc,TT]
 refine hK _ _ ?_;clear hK K
 refine wK fun K hK=>?_
 refine wS fun K hK=>?_
 simp only [↓DN,Qa,Qb,Qc,Qd,Qe,Qf,Qg,Qh,reduceCtorEq,↓reduceIte,Na,Nb,Nc,Nk,Nf,Ng,Nh,Za,Zb,Zc,TT,len_bne_false rfl]
 refine hK _ _ ?_;clear hK K
 refine wC fun X Y hX hY=>?_
 simp only [UP,DF,Nc,↓reduceIte,DB]
 refine hY ?_;clear hX hY X Y
 refine awp_skip ?_
 refine hK _ _ ?_;clear hK K
 refine wK fun K hK=>?_
 refine wS fun K hK=>?_
 simp only [↓DN,Qa,Qb,Qc,Qd,Qe,Qf,Qg,Qh,reduceCtorEq,↓reduceIte,Na,Nb,Nc,Nk,Nf,Ng,Nh,Za,Zb,Zc,TT]
 refine hK _ _ ?_;clear hK K
 refine awp_block ?_
 refine awp_loop (fun E s'=>∃ i : Nat,i≤l.length∧E 13 = .v (.int .i64 i)∧E 12 = .v (.int .i64 l.length)∧E 0 = .sl 5 l.length X .any∧E 1 = .sl 5 l.length X .any∧s' = s)
  (fun E _=>match E 13 with | .v (.int _ i)=>l.length - i.toNat | _=>0) ?_ ?_
 ·exact ⟨0,Nat.zero_le _,by simp only [upd,Nc,↓reduceIte]; rfl,by simp only [upd,Nc,↓reduceIte],by simp only [upd,initE,List.getD_cons_zero,List.getD_cons_succ,Nc,↓reduceIte],by simp only [upd,initE,List.getD_cons_zero,List.getD_cons_succ,Nc,↓reduceIte],rfl⟩
 rintro E1 s1 ⟨i,hi,g13,g12,g0,g1,rfl⟩ -
 by_cases hi' : i < l.length
 ·refine wS fun K hK=>?_
  simp only [↓DN,Qa,Qb,Qc,Qd,Qe,Qf,Qg,Qh,reduceCtorEq,↓reduceIte,Na,Nb,Nc,Nk,Nf,Ng,Nh,Za,Zb,Zc,TT,g13,g12,eye_lt_nat,decide_eq_true hi']
  refine hK _ _ ?_;clear hK K
  refine wK fun K2 hK2=>?_
  refine wC fun X Y hX hY=>?_
  simp only [UP,DF,Nc,↓reduceIte,DB]
  refine hX ?_;clear hX hY X Y
  refine awp_skip ?_
  refine hK2 _ _ ?_;clear hK2 K2
  refine wK fun K3 hK3=>?_
  refine awp_block ?_
  have hge : (0 : Int)≤((i : Nat) : Int):=by omega
  have hat:=hrow i hi'
  have hnk:=entNe l[i] l[i]
  generalize l[i] = d at *
  obtain ⟨d1,d2,d3,d4,d5⟩:=d
  unfold EntV.cells at hat hnk
  simp only [ne_eq,not_true_eq_false,decide_false] at hat hnk
  refine wS fun K hK=>?_
  simp only [↓DN,Qa,Qb,Qc,Qd,Qe,Qf,Qg,Qh,reduceCtorEq,↓reduceIte,Na,Nb,Nc,Nk,Nf,Ng,Nh,Za,Zb,Zc,TT,g13]
  refine hK _ _ ?_;clear hK K
  refine awp_drw_seq T.mixed [] (by kernel_rfl) ?_
  intro K hK
  simp only [↓DM,pval,DX,Nz,↓DN,Qa,Qb,Qc,Qd,Qe,Qf,Qg,Qh,reduceCtorEq,↓reduceIte,Na,Nb,Nc,Nk,Nf,Ng,Nh,Za,Zb,Zc,TT,g0,g1,hge,eye_lt_nat,hi',hat,hnk]
  refine hK _ _ ?_;clear hK K
  refine wC fun X Y hX hY=>?_
  simp only [UP,DF,Nc,↓reduceIte,DB]
  refine hY ?_;clear hX hY X Y
  refine awp_skip ?_
  simp only [blockQ,thenQ]
  refine hK3 _ _ ?_;clear hK3 K3
  refine wE fun K hK=>?_
  simp only [↓DN,Qa,Qb,Qc,Qd,Qe,Qf,Qg,Qh,reduceCtorEq,↓reduceIte,Na,Nb,Nc,Nk,Nf,Ng,Nh,Za,Zb,Zc,TT,g13,eye_succM i (by omega)]
  refine hK _ _ ?_;clear hK K
  refine ⟨⟨i + 1,hi',by simp only [upd,Nc,↓reduceIte],by simp only [upd,g12,Nc,↓reduceIte],by simp only [upd,g0,Nc,↓reduceIte],by simp only [upd,g1,Nc,↓reduceIte],rfl⟩,?_⟩
  simp only [g13,upd,↓reduceIte]
  omega
 ·refine wS fun K hK=>?_
  simp only [↓DN,Qa,Qb,Qc,Qd,Qe,Qf,Qg,Qh,reduceCtorEq,↓reduceIte,Na,Nb,Nc,Nk,Nf,Ng,Nh,Za,Zb,Zc,TT,g13,g12,eye_lt_nat,decide_eq_false hi']
  refine hK _ _ ?_;clear hK K
  refine wK fun K2 hK2=>?_
  refine wC fun X Y hX hY=>?_
  simp only [UP,DF,Nc,↓reduceIte,DB]
  refine hY ?_;clear hX hY X Y
  refine awp_exit ?_
  simp only [thenQ,blockQ,if_true]
  refine hK _ _ ?_;clear hK hK2 K2 K
  refine wS fun K hK=>?_
  simp only [↓DN,Qa,Qb,Qc,Qd,Qe,Qf,Qg,Qh,reduceCtorEq,↓reduceIte,Na,Nb,Nc,Nk,Nf,Ng,Nh,Za,Zb,Zc,TT]
  refine hK _ _ ?_;clear hK K
  refine awp_ret ?_
  try simp only [thenQ,blockQ]
  simp only [retQ,AEnds,aresL,ares,List.toList_toArray,↓upd_same]; try simp only [UP,DF,Nc,↓reduceIte,DT]
  exact ⟨_,_,AV.weak.refl _,AS.le.refl _,rfl,rfl⟩
theorem txEq_calls (l : List (List UInt8)) (hl : l.length≤2 ^ 40) (s : AS) : ACalls Try.prog Γ 38 [textsV l,textsV l,.v (.func (.func 39) #[] #[])] s (fun r s'=>r = .v (.bool true)∧s' = s):=by
 refine acalls_body Try.func38 rfl Try.ntmps38 Try.results38 (by simp) ?_
 have hat:=fun (i : Nat) (hi : i < l.length)=>text_at1 hi
 unfold textsV
 generalize (l.map fun b=>bytesV b .any) = X at *
 refine wS fun K hK=>?_
 simp only [↓DN,Qa,Qb,Qc,Qd,Qe,Qf,Qg,Qh,reduceCtorEq,↓reduceIte,Na,Nb,Nc,Nk,Nf,Ng,Nh,Za,Zb,Zc,TT]
 refine hK _ _ ?_;clear hK K
 refine wK fun K hK=>?_
 refine wS fun K hK=>?_
 simp only [↓DN,Qa,Qb,Qc,Qd,Qe,Qf,Qg,Qh,reduceCtorEq,↓reduceIte,Na,Nb,Nc,Nk,Nf,Ng,Nh,Za,Zb,Zc,TT,len_bne_false rfl]
 refine hK _ _ ?_;clear hK K
 refine wC fun X Y hX hY=>?_
 simp only [UP,DF,Nc,↓reduceIte,DB]
 refine hY ?_;clear hX hY X Y
 refine awp_skip ?_
 refine hK _ _ ?_;clear hK K
 refine wK fun K hK=>?_
 refine wS fun K hK=>?_
 simp only [↓DN,Qa,Qb,Qc,Qd,Qe,Qf,Qg,Qh,reduceCtorEq,↓reduceIte,Na,Nb,Nc,Nk,Nf,Ng,Nh,Za,Zb,Zc,TT]
 refine hK _ _ ?_;clear hK K
 refine awp_block ?_
 refine awp_loop (fun E s'=>∃ i : Nat,i≤l.length∧E 17 = .v (.int .i64 i)∧E 16 = .v (.int .i64 l.length)∧E 15 = .sl 1 l.length X .any∧E 1 = .sl 1 l.length X .any∧E 2 = .v (.func (.func 39) #[] #[])∧s' = s)
  (fun E _=>match E 17 with | .v (.int _ i)=>l.length - i.toNat | _=>0) ?_ ?_
 ·exact ⟨0,Nat.zero_le _,by simp only [upd,Nc,↓reduceIte]; rfl,by simp only [upd,Nc,↓reduceIte],by simp only [upd,Nc,↓reduceIte],by simp only [upd,initE,List.getD_cons_zero,List.getD_cons_succ,Nc,↓reduceIte],by simp only [upd,initE,List.getD_cons_zero,List.getD_cons_succ,Nc,↓reduceIte],rfl⟩
 rintro E1 s1 ⟨i,hi,g17,g16,g15,g1,g2,rfl⟩ -
 by_cases hi' : i < l.length
 ·refine wS fun K hK=>?_
  simp only [↓DN,Qa,Qb,Qc,Qd,Qe,Qf,Qg,Qh,reduceCtorEq,↓reduceIte,Na,Nb,Nc,Nk,Nf,Ng,Nh,Za,Zb,Zc,TT,g17,g16,eye_lt_nat,decide_eq_true hi']
  refine hK _ _ ?_;clear hK K
  refine wK fun K2 hK2=>?_
  refine wC fun X Y hX hY=>?_
  simp only [UP,DF,Nc,↓reduceIte,DB]
  refine hX ?_;clear hX hY X Y
  refine awp_skip ?_
  refine hK2 _ _ ?_;clear hK2 K2
  refine wK fun K3 hK3=>?_
  refine awp_block ?_
  have hge : (0 : Int)≤((i : Nat) : Int):=by omega
  have hat':=hat i hi'
  generalize l[i] = g at *
  have hbe:=bytesEq28_calls (Γ:=Γ) g g s1
  rw [decide_eq_true rfl] at hbe
  unfold bytesV at *
  refine wS fun K hK=>?_
  simp only [↓DN,Qa,Qb,Qc,Qd,Qe,Qf,Qg,Qh,reduceCtorEq,↓reduceIte,Na,Nb,Nc,Nk,Nf,Ng,Nh,Za,Zb,Zc,TT,g17,g15,hge,eye_lt_nat,hi',hat']
  refine hK _ _ ?_;clear hK K
  refine wS fun K hK=>?_
  simp only [↓DN,Qa,Qb,Qc,Qd,Qe,Qf,Qg,Qh,reduceCtorEq,↓reduceIte,Na,Nb,Nc,Nk,Nf,Ng,Nh,Za,Zb,Zc,TT,g1,hge,eye_lt_nat,hi',hat']
  refine hK _ _ ?_;clear hK K
  refine wS fun K hK=>?_
  simp only [↓DN,Qa,Qb,Qc,Qd,Qe,Qf,Qg,Qh,reduceCtorEq,↓reduceIte,Na,Nb,Nc,Nk,Nf,Ng,Nh,Za,Zb,Zc,TT,g2,T.k39]
  refine acallk hbe ?_
  rintro r s2 ⟨rfl,rfl⟩
  simp only [↓DM,pval,DX,Nz,↓DN,Qa,Qb,Qc,Qd,Qe,Qf,Qg,Qh,reduceCtorEq,↓reduceIte,Na,Nb,Nc,Nk,Nf,Ng,Nh,Za,Zb,Zc,TT]
  refine hK _ _ ?_;clear hK K
  refine wC fun X Y hX hY=>?_
  simp only [UP,DF,Nc,↓reduceIte,DB]
  refine hY ?_;clear hX hY X Y
  refine awp_skip ?_
  simp only [blockQ,thenQ]
  refine hK3 _ _ ?_;clear hK3 K3
  refine wE fun K hK=>?_
  simp only [↓DN,Qa,Qb,Qc,Qd,Qe,Qf,Qg,Qh,reduceCtorEq,↓reduceIte,Na,Nb,Nc,Nk,Nf,Ng,Nh,Za,Zb,Zc,TT,g17,eye_succM i (by omega)]
  refine hK _ _ ?_;clear hK K
  refine ⟨⟨i + 1,hi',by simp only [upd,Nc,↓reduceIte],by simp only [upd,g16,Nc,↓reduceIte],by simp only [upd,g15,Nc,↓reduceIte],by simp only [upd,g1,Nc,↓reduceIte],by simp only [upd,g2,Nc,↓reduceIte],rfl⟩,?_⟩
  simp only [g17,upd,↓reduceIte]
  omega
 ·refine wS fun K hK=>?_
  simp only [↓DN,Qa,Qb,Qc,Qd,Qe,Qf,Qg,Qh,reduceCtorEq,↓reduceIte,Na,Nb,Nc,Nk,Nf,Ng,Nh,Za,Zb,Zc,TT,g17,g16,eye_lt_nat,decide_eq_false hi']
  refine hK _ _ ?_;clear hK K
  refine wK fun K2 hK2=>?_
  refine wC fun X Y hX hY=>?_
  simp only [UP,DF,Nc,↓reduceIte,DB]
  refine hY ?_;clear hX hY X Y
  refine awp_exit ?_
  simp only [thenQ,blockQ,if_true]
  refine hK _ _ ?_;clear hK hK2 K2 K
  refine wS fun K hK=>?_
  simp only [↓DN,Qa,Qb,Qc,Qd,Qe,Qf,Qg,Qh,reduceCtorEq,↓reduceIte,Na,Nb,Nc,Nk,Nf,Ng,Nh,Za,Zb,Zc,TT]
  refine hK _ _ ?_;clear hK K
  refine awp_ret ?_
  try simp only [thenQ,blockQ]
  simp only [retQ,AEnds,aresL,ares,List.toList_toArray,↓upd_same]; try simp only [UP,DF,Nc,↓reduceIte,DT]
  exact ⟨_,_,AV.weak.refl _,AS.le.refl _,rfl,rfl⟩
end Go.Proofs.Ytfbbckndpkmfcaa
namespace Go.Proofs.Ytfbbckndpkmfcaa
open Go Go.AM Go.Proofs
variable {Γ : Nat→List AV}
theorem mpEq_calls {s : AS} {b b' : Nat} {S : List Int} (h1 : s.maps b = some (.map (S.map shrKV))) (h2 : s.maps b' = some (.map (S.map shrKV))) (hne : b'≠b) : ACalls Try.prog Γ 40 [.v (.map (some b)),.v (.map (some b'))] s (fun r s'=>r = .v (.bool true)∧s' = s):=by
 refine tidyL (Q:=fun r=>r = .v (.bool true)) ?_
 refine acalls_body Try.func40 rfl Try.ntmps40 Try.results40 (by simp) ?_
 have hz : azero Try.prog 4 = some (.bool false):=by kernel_rfl
 have hf:=fun v=>find_shr v S
 obtain ⟨KV,hKV⟩ : ∃ KV,KV = S.map shrKV:=⟨_,rfl⟩
 rw [← hKV] at h1 h2 hf
 refine wS fun K hK=>?_
 simp only [↓DN,Qa,Qb,Qc,Qd,Qe,Qf,Qg,Qh,reduceCtorEq,↓reduceIte,Na,Nb,Nc,Nk,Nf,Ng,Nh,Za,Zb,Zc,TT]
 refine hK _ _ ?_;clear hK K
 refine wK fun K hK=>?_
 refine wS fun K hK=>?_
 simp only [↓DN,Qa,Qb,Qc,Qd,Qe,Qf,Qg,Qh,reduceCtorEq,↓reduceIte,Na,Nb,Nc,Nk,Nf,Ng,Nh,Za,Zb,Zc,TT,h1,h2,amOf,avOf,mo_map,Option.bind_some,Try.underlying50,len_bne_false rfl]
 refine hK _ _ ?_;clear hK K
 refine wC fun X Y hX hY=>?_
 simp only [UP,DF,Nc,↓reduceIte,DB]
 refine hY ?_;clear hX hY X Y
 refine awp_skip ?_
 refine hK _ _ ?_;clear hK K
 refine wK fun KO hKO=>?_
 refine wS fun K hK=>?_
 simp only [↓DN,Qa,Qb,Qc,Qd,Qe,Qf,Qg,Qh,reduceCtorEq,↓reduceIte,Na,Nb,Nc,Nk,Nf,Ng,Nh,Za,Zb,Zc,TT,h1,amOf,avOf,Try.underlying50]
 intro es c r hr
 refine hK _ _ ?_
 clear hK
 have hR:=RgS.start (es:=es) (c:=c) h1 hr
 generalize (s.putM b (.fix KV es c)).putM r (.iter b es c KV none) = s1 at *
 refine awp_block ?_
 refine awp_loop (fun E s'=>∃ left : List (Value × AV),E 1 = .v (.map (some b'))∧E 15 = .v (.pointer (some ⟨r,0,none⟩))∧RgS s b r KV es c left s')
  (fun _ s'=>match s'.maps r with | some (.iter _ _ _ left _)=>left.length | _=>0) ?_ ?_
 ·exact ⟨KV,by simp only [upd,initE,List.getD_cons_zero,List.getD_cons_succ,Nc,↓reduceIte],by simp only [upd,Nc,↓reduceIte],hR⟩
 clear hR
 rintro E1 s2 ⟨left,g1,g15,hR⟩ -
 obtain ⟨cur,hmr⟩:=hR.mr
 refine wS fun K hK=>?_
 simp only [↓DN,Qa,Qb,Qc,Qd,Qe,Qf,Qg,Qh,reduceCtorEq,↓reduceIte,Na,Nb,Nc,Nk,Nf,Ng,Nh,Za,Zb,Zc,TT,g15,hmr]
 refine ⟨_,hR.m1,?_,?_⟩
 ·intro hl
  refine hK _ _ ?_
  clear hK
  refine wK fun K2 hK2=>?_
  refine wC fun X Y hX hY=>?_
  simp only [UP,DF,Nc,↓reduceIte,DB]
  refine hY ?_;clear hX hY X Y
  refine awp_exit ?_
  simp only [thenQ,blockQ,if_true]
  refine hKO _ _ ?_;clear hKO hK2 K2 KO
  refine awp_tells (AS.tells_turn hR.m1) ?_
  refine wS fun K hK=>?_
  simp only [↓DN,Qa,Qb,Qc,Qd,Qe,Qf,Qg,Qh,reduceCtorEq,↓reduceIte,Na,Nb,Nc,Nk,Nf,Ng,Nh,Za,Zb,Zc,TT]
  refine hK _ _ ?_;clear hK K
  refine awp_ret ?_
  try simp only [thenQ,blockQ]
  simp only [retQ,AEnds,aresL,ares,List.toList_toArray,↓upd_same]; try simp only [UP,DF,Nc,↓reduceIte,DT]
  exact ⟨_,_,AV.weak.refl _,AS.le.refl _,rfl,hR.le⟩
 ·intro i hi
  refine hK _ _ ?_
  clear hK
  have hR2:=hR.next h1 hr hi
  have hmem:=hR.mem _ (List.getElem_mem hi)
  rw [hKV] at hmem
  obtain ⟨v,hv,hve⟩:=List.mem_map.1 hmem
  rw [← hve] at hR2 ⊢
  have hmr2 : (s2.putM r (.iter b es c (left.eraseIdx i) (some (shrKV v)))).maps r = some (.iter b es c (left.eraseIdx i) (some (shrKV v))):=by simp [AS.putM]
  have hlt : (left.eraseIdx i).length < left.length:=by rw [List.length_eraseIdx,if_pos hi]; omega
  generalize left.eraseIdx i = left2 at *
  generalize s2.putM r (.iter b es c left2 (some (shrKV v))) = s3 at *
  have hfv:=hf v
  rw [if_pos hv] at hfv
  have hm3:=hR2.oth b' _ hne h2
  have hk : keyPlain (.int .i64) (.int .i64 v) = true:=rfl
  refine wK fun K2 hK2=>?_
  refine wC fun X Y hX hY=>?_
  simp only [UP,DF,Nc,↓reduceIte,DB]
  refine hX ?_;clear hX hY X Y
  refine awp_skip ?_
  refine hK2 _ _ ?_;clear hK2 K2
  refine awp_block ?_
  unfold shrKV at hmr2
  refine wS fun K hK=>?_
  simp only [↓DN,Qa,Qb,Qc,Qd,Qe,Qf,Qg,Qh,reduceCtorEq,↓reduceIte,Na,Nb,Nc,Nk,Nf,Ng,Nh,Za,Zb,Zc,TT,g15,hmr2]
  refine ⟨_,hR2.m1,?_⟩
  refine hK _ _ ?_
  clear hK
  refine wS fun K hK=>?_
  simp only [↓DN,Qa,Qb,Qc,Qd,Qe,Qf,Qg,Qh,reduceCtorEq,↓reduceIte,Na,Nb,Nc,Nk,Nf,Ng,Nh,Za,Zb,Zc,TT,g1,amOf,avOf,hm3,mo_map,Option.bind_some,Try.underlying50,Try.underlying3,hz,hk,hfv]
  refine hK _ _ ?_;clear hK K
  refine wS fun K hK=>?_
  simp only [↓DN,Qa,Qb,Qc,Qd,Qe,Qf,Qg,Qh,reduceCtorEq,↓reduceIte,Na,Nb,Nc,Nk,Nf,Ng,Nh,Za,Zb,Zc,TT,show (!(true == true)) = false from rfl,show ((true : Bool) != true) = false from rfl]
  refine hK _ _ ?_;clear hK K
  refine wC fun X Y hX hY=>?_
  simp only [UP,DF,Nc,↓reduceIte,DB]
  refine hY ?_;clear hX hY X Y
  refine awp_skip ?_
  simp only [blockQ,thenQ]
  obtain ⟨cur2,hmr3⟩:=hR2.mr
  refine ⟨⟨left2,by simp only [upd,g1,Nc,↓reduceIte],by simp only [upd,g15,Nc,↓reduceIte],hR2⟩,?_⟩
  rw [hmr3,hmr]
  exact hlt
theorem look2 {gs gs2 : List GEnt} (hv : gs2.map GEnt.val = gs.map GEnt.val) (hn : (gs.map fun x=>x.g).Nodup) {x : GEnt} (hx : x ∈ gs) : ∃ y ∈ gs2,(gs2.find? fun z=>decide (x.g = z.g)) = some y∧y.es = x.es:=by
 have he : entsOf x.g (gs.map GEnt.val) = x.es∧hasG x.g (gs.map GEnt.val) = true:=by
  clear hv
  induction gs with
  | nil=>cases hx
  | cons z gs ih =>
   simp only [List.map_cons,List.nodup_cons] at hn
   simp only [List.map_cons,GEnt.val,entsOf,hasG]
   rcases List.mem_cons.1 hx with rfl | hx
   ·simp
   ·have : x.g≠z.g:=fun e=>hn.1 (by rw [← e]; exact List.mem_map_of_mem (f:=fun x : GEnt=>x.g) hx)
    rw [if_neg this,if_neg this]
    exact ih hn.2 hx
 rw [← hv] at he
 rcases lookE (gs:=gs2) x.g with ⟨_,_,k⟩ | ⟨y,hy,k1,_,k3,_⟩
 ·rw [k] at he; cases he.2
 ·exact ⟨y,hy,k1,by rw [← k3,he.1]⟩
theorem mpEqF_calls {s : AS} {b b' : Nat} {gs gs2 : List GEnt} (h1 : s.maps b = some (.map (gs.map GEnt.kv))) (h2 : s.maps b' = some (.map (gs2.map GEnt.kv))) (hne : b'≠b) (hv : gs2.map GEnt.val = gs.map GEnt.val) (hn : (gs.map fun x=>x.g).Nodup) (hl : ∀ x ∈ gs,x.es.length≤2 ^ 40) :
  ACalls Try.prog Γ 41 [.v (.map (some b)),.v (.map (some b')),.v (.func (.func 42) #[] #[])] s (fun r s'=>r = .v (.bool true)∧s' = s):=by
 refine tidyL (Q:=fun r=>r = .v (.bool true)) ?_
 refine acalls_body Try.func41 rfl Try.ntmps41 Try.results41 (by simp) ?_
 have hz : azero Try.prog 58 = some (.slice none 0 0):=by kernel_rfl
 have hf:=fun g=>find_grp g gs2
 have hlen : (gs.map GEnt.kv).length = (gs2.map GEnt.kv).length:=by
  have:=congrArg List.length hv
  simpa using this.symm
 obtain ⟨KV,hKV⟩ : ∃ KV,KV = gs.map GEnt.kv:=⟨_,rfl⟩
 obtain ⟨KW,hKW⟩ : ∃ KW,KW = gs2.map GEnt.kv:=⟨_,rfl⟩
 rw [← hKV] at h1 hlen
 rw [← hKW] at h2 hlen hf
 refine wS fun K hK=>?_
 simp only [↓DN,Qa,Qb,Qc,Qd,Qe,Qf,Qg,Qh,reduceCtorEq,↓reduceIte,Na,Nb,Nc,Nk,Nf,Ng,Nh,Za,Zb,Zc,TT]
 refine hK _ _ ?_;clear hK K
 refine wK fun K hK=>?_
 refine wS fun K hK=>?_
 simp only [↓DN,Qa,Qb,Qc,Qd,Qe,Qf,Qg,Qh,reduceCtorEq,↓reduceIte,Na,Nb,Nc,Nk,Nf,Ng,Nh,Za,Zb,Zc,TT,h1,h2,amOf,avOf,mo_map,Option.bind_some,Try.underlying49,len_bne_false hlen]
 refine hK _ _ ?_;clear hK K
 refine wC fun X Y hX hY=>?_
 simp only [UP,DF,Nc,↓reduceIte,DB]
 refine hY ?_;clear hX hY X Y
 refine awp_skip ?_
 refine hK _ _ ?_;clear hK K
 refine wK fun KO hKO=>?_
 refine wS fun K hK=>?_
 simp only [↓DN,Qa,Qb,Qc,Qd,Qe,Qf,Qg,Qh,reduceCtorEq,↓reduceIte,Na,Nb,Nc,Nk,Nf,Ng,Nh,Za,Zb,Zc,TT,h1,amOf,avOf,Try.underlying49]
 intro es c r hr
 refine hK _ _ ?_
 clear hK
 have hR:=RgS.start (es:=es) (c:=c) h1 hr
 generalize (s.putM b (.fix KV es c)).putM r (.iter b es c KV none) = s1 at *
 refine awp_block ?_
 refine awp_loop (fun E s'=>∃ left : List (Value × AV),E 1 = .v (.map (some b'))∧E 2 = .v (.func (.func 42) #[] #[])∧E 17 = .v (.pointer (some ⟨r,0,none⟩))∧RgS s b r KV es c left s')
  (fun _ s'=>match s'.maps r with | some (.iter _ _ _ left _)=>left.length | _=>0) ?_ ?_
 ·exact ⟨KV,by simp only [upd,initE,List.getD_cons_zero,List.getD_cons_succ,Nc,↓reduceIte],by simp only [upd,initE,List.getD_cons_zero,List.getD_cons_succ,Nc,↓reduceIte],by simp only [upd,Nc,↓reduceIte],hR⟩
 clear hR
 rintro E1 s2 ⟨left,g1,g2,g17,hR⟩ -
 obtain ⟨cur,hmr⟩:=hR.mr
 refine wS fun K hK=>?_
 simp only [↓DN,Qa,Qb,Qc,Qd,Qe,Qf,Qg,Qh,reduceCtorEq,↓reduceIte,Na,Nb,Nc,Nk,Nf,Ng,Nh,Za,Zb,Zc,TT,g17,hmr]
 refine ⟨_,hR.m1,?_,?_⟩
 ·intro hl
  refine hK _ _ ?_
  clear hK
  refine wK fun K2 hK2=>?_
  refine wC fun X Y hX hY=>?_
  simp only [UP,DF,Nc,↓reduceIte,DB]
  refine hY ?_;clear hX hY X Y
  refine awp_exit ?_
  simp only [thenQ,blockQ,if_true]
  refine hKO _ _ ?_;clear hKO hK2 K2 KO
  refine awp_tells (AS.tells_turn hR.m1) ?_
  refine wS fun K hK=>?_
  simp only [↓DN,Qa,Qb,Qc,Qd,Qe,Qf,Qg,Qh,reduceCtorEq,↓reduceIte,Na,Nb,Nc,Nk,Nf,Ng,Nh,Za,Zb,Zc,TT]
  refine hK _ _ ?_;clear hK K
  refine awp_ret ?_
  try simp only [thenQ,blockQ]
  simp only [retQ,AEnds,aresL,ares,List.toList_toArray,↓upd_same]; try simp only [UP,DF,Nc,↓reduceIte,DT]
  exact ⟨_,_,AV.weak.refl _,AS.le.refl _,rfl,hR.le⟩
 ·intro i hi
  refine hK _ _ ?_
  clear hK
  have hR2:=hR.next h1 hr hi
  have hmem:=hR.mem _ (List.getElem_mem hi)
  rw [hKV] at hmem
  obtain ⟨x,hx,hxe⟩:=List.mem_map.1 hmem
  rw [← hxe] at hR2 ⊢
  have hmr2 : (s2.putM r (.iter b es c (left.eraseIdx i) (some x.kv))).maps r = some (.iter b es c (left.eraseIdx i) (some x.kv)):=by simp [AS.putM]
  have hlt : (left.eraseIdx i).length < left.length:=by rw [List.length_eraseIdx,if_pos hi]; omega
  generalize left.eraseIdx i = left2 at *
  generalize s2.putM r (.iter b es c left2 (some x.kv)) = s3 at *
  obtain ⟨y,hy,hfy,hye⟩:=look2 hv hn hx
  have hfv:=hf x.g
  rw [hfy] at hfv
  simp only [Option.map_some,GEnt.av,hye] at hfv
  have hm3:=hR2.oth b' _ hne h2
  have hk : keyPlain .string (.string ⟨x.g.toArray⟩) = true:=rfl
  have hsl:=fun s=>ACalls.weaks (.cons (AV.weak_any (sp:=.own x.t x.e)) (.cons (AV.weak_any (sp:=.own y.t y.e)) .nil)) (slEq_calls (Γ:=Γ) x.es (hl x hx) s)
  unfold entsV at hsl
  refine wK fun K2 hK2=>?_
  refine wC fun X Y hX hY=>?_
  simp only [UP,DF,Nc,↓reduceIte,DB]
  refine hX ?_;clear hX hY X Y
  refine awp_skip ?_
  refine hK2 _ _ ?_;clear hK2 K2
  refine awp_block ?_
  unfold GEnt.kv GEnt.av at hmr2
  generalize rowC EntV.cells x.es = XE at *
  refine wS fun K hK=>?_
  simp only [↓DN,Qa,Qb,Qc,Qd,Qe,Qf,Qg,Qh,reduceCtorEq,↓reduceIte,Na,Nb,Nc,Nk,Nf,Ng,Nh,Za,Zb,Zc,TT,g17,hmr2]
  refine ⟨_,hR2.m1,?_⟩
  refine hK _ _ ?_
  clear hK
  refine wS fun K hK=>?_
  simp only [↓DN,Qa,Qb,Qc,Qd,Qe,Qf,Qg,Qh,reduceCtorEq,↓reduceIte,Na,Nb,Nc,Nk,Nf,Ng,Nh,Za,Zb,Zc,TT,g1,amOf,avOf,hm3,mo_map,Option.bind_some,Try.underlying49,Try.underlying9,hz,hk,hfv]
  refine hK _ _ ?_;clear hK K
  refine wS fun K hK=>?_
  simp only [↓DN,Qa,Qb,Qc,Qd,Qe,Qf,Qg,Qh,reduceCtorEq,↓reduceIte,Na,Nb,Nc,Nk,Nf,Ng,Nh,Za,Zb,Zc,TT,g2,T.k42]
  refine acallk (hsl _) ?_
  rintro r s4 ⟨rfl,rfl⟩
  simp only [↓DM,pval,DX,Nz,↓DN,Qa,Qb,Qc,Qd,Qe,Qf,Qg,Qh,reduceCtorEq,↓reduceIte,Na,Nb,Nc,Nk,Nf,Ng,Nh,Za,Zb,Zc,TT]
  refine hK _ _ ?_;clear hK K
  refine wC fun X Y hX hY=>?_
  simp only [UP,DF,Nc,↓reduceIte,DB]
  refine hY ?_;clear hX hY X Y
  refine awp_skip ?_
  simp only [blockQ,thenQ]
  obtain ⟨cur2,hmr3⟩:=hR2.mr
  refine ⟨⟨left2,by simp only [upd,g1,Nc,↓reduceIte],by simp only [upd,g2,Nc,↓reduceIte],by simp only [upd,g17,Nc,↓reduceIte],hR2⟩,?_⟩
  rw [hmr3,hmr]
  exact hlt
end Go.Proofs.Ytfbbckndpkmfcaa
namespace Go.Proofs.Ytfbbckndpkmfcaa
open Go Go.AM Go.Proofs
variable {Γ : Nat→List AV}
theorem sameNil_calls (s : AS) : ACalls Try.prog Γ 18 [.v (.pointer none),.v (.pointer none)] s (fun r s'=>r = .v (.bool true)∧s' = s):=by
 refine acalls_body Try.func18 rfl Try.ntmps18 Try.results18 (by simp) ?_
 refine wS fun K hK=>?_
 simp only [↓DN,Qa,Qb,Qc,Qd,Qe,Qf,Qg,Qh,reduceCtorEq,↓reduceIte,Na,Nb,Nc,Nk,Nf,Ng,Nh,Za,Zb,Zc,TT]
 refine hK _ _ ?_;clear hK K
 refine wK fun K hK=>?_
 refine wS fun K hK=>?_
 simp only [↓DN,Qa,Qb,Qc,Qd,Qe,Qf,Qg,Qh,reduceCtorEq,↓reduceIte,Na,Nb,Nc,Nk,Nf,Ng,Nh,Za,Zb,Zc,TT]
 refine hK _ _ ?_;clear hK K
 refine wC fun X Y hX hY=>?_
 simp only [UP,DF,Nc,↓reduceIte,DB]
 refine hX ?_;clear hX hY X Y
 refine wS fun K hK=>?_
 simp only [↓DN,Qa,Qb,Qc,Qd,Qe,Qf,Qg,Qh,reduceCtorEq,↓reduceIte,Na,Nb,Nc,Nk,Nf,Ng,Nh,Za,Zb,Zc,TT]
 refine hK _ _ ?_;clear hK K
 refine awp_ret ?_
 try simp only [thenQ,blockQ]
 simp only [retQ,AEnds,aresL,ares,List.toList_toArray,↓upd_same]; try simp only [UP,DF,Nc,↓reduceIte,DT]
 exact ⟨_,_,AV.weak.refl _,AS.le.refl _,rfl,rfl⟩
theorem sameNilP_calls (p : Nat) (s : AS) : ACalls Try.prog Γ 18 [.v (.pointer none),.ptr p 0] s (fun r s'=>r = .v (.bool false)∧s' = s):=by
 refine acalls_body Try.func18 rfl Try.ntmps18 Try.results18 (by simp) ?_
 refine wS fun K hK=>?_
 simp only [↓DN,Qa,Qb,Qc,Qd,Qe,Qf,Qg,Qh,reduceCtorEq,↓reduceIte,Na,Nb,Nc,Nk,Nf,Ng,Nh,Za,Zb,Zc,TT]
 refine hK _ _ ?_;clear hK K
 refine wK fun K hK=>?_
 refine wS fun K hK=>?_
 simp only [↓DN,Qa,Qb,Qc,Qd,Qe,Qf,Qg,Qh,reduceCtorEq,↓reduceIte,Na,Nb,Nc,Nk,Nf,Ng,Nh,Za,Zb,Zc,TT]
 refine hK _ _ ?_;clear hK K
 refine wC fun X Y hX hY=>?_
 simp only [UP,DF,Nc,↓reduceIte,DB]
 refine hX ?_;clear hX hY X Y
 refine wS fun K hK=>?_
 simp only [↓DN,Qa,Qb,Qc,Qd,Qe,Qf,Qg,Qh,reduceCtorEq,↓reduceIte,Na,Nb,Nc,Nk,Nf,Ng,Nh,Za,Zb,Zc,TT]
 refine hK _ _ ?_;clear hK K
 refine awp_ret ?_
 try simp only [thenQ,blockQ]
 simp only [retQ,AEnds,aresL,ares,List.toList_toArray,↓upd_same]; try simp only [UP,DF,Nc,↓reduceIte,DT]
 exact ⟨_,_,AV.weak.refl _,AS.le.refl _,rfl,rfl⟩
theorem sameDiff_calls {s : AS} {p1 p2 : Nat} {c1 c2 : Int} {r1 r2 : List AV} (h1 : s.objs p1 = some (.v (.int .i64 c1) :: r1)) (h2 : s.objs p2 = some (.v (.int .i64 c2) :: r2)) (hc : c1≠c2) :
  ACalls Try.prog Γ 18 [.ptr p1 0,.ptr p2 0] s (fun r s'=>r = .v (.bool false)∧s' = s):=by
 refine acalls_body Try.func18 rfl Try.ntmps18 Try.results18 (by simp) ?_
 have f0:=int_eq_no hc
 refine wS fun K hK=>?_
 simp only [↓DN,Qa,Qb,Qc,Qd,Qe,Qf,Qg,Qh,reduceCtorEq,↓reduceIte,Na,Nb,Nc,Nk,Nf,Ng,Nh,Za,Zb,Zc,TT]
 refine hK _ _ ?_;clear hK K
 refine wK fun K hK=>?_
 refine wS fun K hK=>?_
 simp only [↓DN,Qa,Qb,Qc,Qd,Qe,Qf,Qg,Qh,reduceCtorEq,↓reduceIte,Na,Nb,Nc,Nk,Nf,Ng,Nh,Za,Zb,Zc,TT]
 refine hK _ _ ?_;clear hK K
 refine wC fun X Y hX hY=>?_
 simp only [UP,DF,Nc,↓reduceIte,DB]
 refine hY ?_;clear hX hY X Y
 refine awp_skip ?_
 refine hK _ _ ?_;clear hK K
 refine awp_drs_seq T.mixed [] [(3,.v (.int .i64 c1)),(7,.v (.int .i64 c2))] [0,1,2,3,4,5,6,7,8,9,10,11,12,13,14,15,16,17,18,19,20,21,22,23,24,25,26,27,28,29,30,31,32,33,34,35,36,37,38,39,40,41,42,43,44,45,46,47,48,49] (by kernel_rfl) ?_
 intro K hK
 simp only [↓AXw_nil,↓AXw_cons,↓AGivS_call,↓AGivS_load,glook_nil,glook_cons,gokB,pval,DX,Nat.reduceBEq,List.toList_toArray,List.map_cons,List.map_nil,aeval,↓DN,Qa,Qb,Qc,Qd,Qe,Qf,Qg,Qh,reduceCtorEq,↓reduceIte,Na,Nb,Nc,Nk,Nf,Ng,Nh,Za,Zb,Zc,TT,h1,h2,f0]
 refine hK _ _ ?_
 clear hK
 refine awp_ret ?_
 try simp only [thenQ,blockQ]
 simp only [retQ,AEnds,aresL,ares,List.toList_toArray,↓upd_same]; try simp only [UP,DF,Nc,↓reduceIte,DT]
 exact ⟨_,_,AV.weak.refl _,AS.le.refl _,rfl,rfl⟩
theorem sameEq_calls {s0 s0' s : AS} {p1 p2 : Nat} {L : LedV} {gs gs' : List GEnt} {gt ge gt' ge' b1 b2 b1' b2' : Nat} (h : LedS s0 s p1 L gs gt ge b1 b2) (h' : LedS s0' s p2 L gs' gt' ge' b1' b2') (hb1 : b1'≠b1) (hb2 : b2'≠b2) (hr : L.rises) (hc : L.count≤2 ^ 30) :
  ACalls Try.prog Γ 18 [.ptr p1 0,.ptr p2 0] s (fun r s'=>r = .v (.bool true)∧s' = s):=by
 refine acalls_body Try.func18 rfl Try.ntmps18 Try.results18 (by simp) ?_
 have ho1:=h.obj
 have ho2:=h'.obj
 have hgl : gs.length≤2 ^ 40∧gs'.length≤2 ^ 40∧(L.gs.map (·.1)).length≤2 ^ 40:=by
  have e1:=totE_geN hr
  have e2:=hr.2.2.1
  have e3 : L.gs.length = gs.length:=by rw [h.val,List.length_map]
  have e4 : L.gs.length = gs'.length:=by rw [h'.val,List.length_map]
  rw [List.length_map]
  omega
 have hg1:=ledGroups_calls (Γ:=Γ) h hgl.1
 have hg2:=ledGroups_calls (Γ:=Γ) h' hgl.2.1
 have htx:=txEq_calls (Γ:=Γ) (L.gs.map (·.1)) hgl.2.2 s
 have hm2:=mpEq_calls (Γ:=Γ) h.m2 h'.m2 hb2
 have hval : gs'.map GEnt.val = gs.map GEnt.val:=by rw [← h.val,← h'.val]
 have hnd : (gs.map fun x=>x.g).Nodup:=by
  have:=hr.1
  rw [h.val,List.map_map] at this
  exact this
 have hm1:=mpEqF_calls (Γ:=Γ) h.m1 h'.m1 hb1 hval hnd (fun x hx=>by
  have:=totE_len (show GEnt.val x ∈ L.gs by rw [h.val]; exact List.mem_map_of_mem hx)
  have e2:=hr.2.2.1
  simp only [GEnt.val] at this
  omega)
 unfold ledC at ho1 ho2
 generalize grpAV gs gt ge = X1 at *
 generalize grpAV gs' gt' ge' = X2 at *
 have f1 : (L.count == L.count) = true:=int_eq_yes rfl
 have f2 : (L.time == L.time) = true:=int_eq_yes rfl
 refine wS fun K hK=>?_
 simp only [↓DN,Qa,Qb,Qc,Qd,Qe,Qf,Qg,Qh,reduceCtorEq,↓reduceIte,Na,Nb,Nc,Nk,Nf,Ng,Nh,Za,Zb,Zc,TT]
 refine hK _ _ ?_;clear hK K
 refine wK fun K hK=>?_
 refine wS fun K hK=>?_
 simp only [↓DN,Qa,Qb,Qc,Qd,Qe,Qf,Qg,Qh,reduceCtorEq,↓reduceIte,Na,Nb,Nc,Nk,Nf,Ng,Nh,Za,Zb,Zc,TT]
 refine hK _ _ ?_;clear hK K
 refine wC fun X Y hX hY=>?_
 simp only [UP,DF,Nc,↓reduceIte,DB]
 refine hY ?_;clear hX hY X Y
 refine awp_skip ?_
 refine hK _ _ ?_;clear hK K
 refine awp_drs_seq T.mixed [] [(3,.v (.int .i64 L.count)),(7,.v (.int .i64 L.count)),(13,.v (.int .i64 L.time)),(17,.v (.int .i64 L.time)),(22,grpsV (L.gs.map (·.1))),(24,grpsV (L.gs.map (·.1))),(25,.v (.bool true)),(31,.v (.map (some b2))),(35,.v (.map (some b2'))),(36,.v (.bool true)),(42,.v (.map (some b1))),(46,.v (.map (some b1'))),(47,.v (.bool true))] [0,1,2,3,4,5,6,7,8,9,10,11,12,13,14,15,16,17,18,19,20,21,22,23,24,25,26,27,28,29,30,31,32,33,34,35,36,37,38,39,40,41,42,43,44,45,46,47,48,49] (by kernel_rfl) ?_
 intro K hK
 simp (config := { maxSteps := 1000000 }) only [↓AXw_nil,↓AXw_cons,↓AGivS_call,↓AGivS_load,glook_nil,glook_cons,gokB,pval,DX,Nat.reduceBEq,List.toList_toArray,List.map_cons,List.map_nil,aeval,↓DN,Qa,Qb,Qc,Qd,Qe,Qf,Qg,Qh,reduceCtorEq,↓reduceIte,Na,Nb,Nc,Nk,Nf,Ng,Nh,Za,Zb,Zc,TT,ho1,ho2,f1,f2]
 refine agivs hg1 (agivs hg2 (agivs htx (agivs hm2 (agivs hm1 ?_))))
 refine hK _ _ ?_
 clear hK
 refine awp_ret ?_
 try simp only [thenQ,blockQ]
 simp only [retQ,AEnds,aresL,ares,List.toList_toArray,↓upd_same]; try simp only [UP,DF,Nc,↓reduceIte,DT]
 exact ⟨_,_,AV.weak.refl _,AS.le.refl _,rfl,rfl⟩
end Go.Proofs.Ytfbbckndpkmfcaa
