/- Contracts of the program's functions, each walked once; the conditions stand in each theorem. -/
import Derived.Test.YtfjlmkifiihgkaaGreatDoorW8
import Derived.Test.YtfjlmkifiihgkaaGreatDoorW7
import Derived.Test.YtfjlmkifiihgkaaGreatDoorW1
import Derived.Test.YtfjlmkifiihgkaaGreatDoorAMp4
import Derived.Test.YtfjlmkifiihgkaaGreatDoorAMp3
import Derived.Test.YtfjlmkifiihgkaaGreatDoorAMp5
import Derived.Test.YtfjlmkifiihgkaaGreatDoorAMp6
import Derived.Test.YtfjlmkifiihgkaaGreatDoorRows
import Derived.Test.YtfjlmkifiihgkaaGreatDoorW4
import Derived.ProofKit
import Derived.LaidMore
import Derived.MakeChecks
import Derived.OpenShut
set_option linter.unusedSimpArgs false
set_option linter.unusedVariables false
open Nat renaming reduceLT → Na, reduceLeDiff → Nb, reduceEqDiff → Nc, reduceAdd → Nk, reduceMul → Nf, reducePow → Ng, reduceSub → Nh, reduceBEq → Nz
open Int renaming reduceLT → Za, reduceLE → Zb, reduceToNat → Zc
open And renaming intro → Ai
open Go.AM renaming ashift → Qa, aconv → Qb, aindexAddr → Qc, aindex → Qd, aslice → Qe, abuiltin → Qf, awp_reg_seq → wS, awp_reg_end → wE, awp_seq_k → wK, awp_cond_k → wC
open Go.AM.AV renaming cells → Qg, one → Qh
set_option maxRecDepth 100000
set_option maxHeartbeats 8000000
set_option autoImplicit false
namespace Go.AM
open Go
abbrev NmF:=Nat→List UInt8
def setF (f : NmF) (v : Nat) (nm : List UInt8) : NmF:=fun j=>if j = v then nm else f j
def remF : List PropV→NmF→NmF
  | [],f=>f
  | p :: ps,f=>if p.kind = 3 then remF ps (setF f p.leaf.toNat []) else remF ps f
def addsF : List PropV→NmF→List Int→NmF→Prop
  | [],f,L,f'=>L = []∧f' = f
  | p :: ps,f,L,f'=>(p.kind≠1→addsF ps f L f')∧(p.kind = 1→∃ (v : Nat) (L' : List Int),L = (v : Int) :: L'∧v < 32∧(∀ k : Nat,k < v→f k≠[])∧f v = []∧addsF ps (setF f v p.name) L' f')
theorem ok32 {t : List NodeV} (h : rightT t) : FoldOk t 32:=by
  refine ⟨h,fun k hk hm=>?_,Nat.le_refl _⟩
  have h1:=memI_lt hm
  have h2:=lvs_le t
  omega
theorem name_nil {t : List NodeV} (h : rightT t) (k : Nat) : nameAt t k = []↔¬ memI t (k : Int):=by
  constructor
  · exact (nameAt_nil h k).1
  · exact (nameAt_nil h k).2
theorem fStep2_names {p : PropV} {st st' : FSt} (hr : rightT st.t) (h : fStep 2 p st = some st') : nameAt st'.t = nameAt st.t∧st'.fresh = st.fresh:=by
  by_cases hk : p.kind = 2
  · have he : (turnT st.t p).2.2 = 0:=Classical.byContradiction fun q=>by rw [fStep_err hk q] at h; cases h
    have hd : (turnT st.t p).2.1 ∉ st.old:=fun q=>by rw [fStep_dup hk (by decide) q] at h; cases h
    rw [fStep_old hk (by decide) he hd] at h
    cases h
    have ht : turnT st.t p = ((updR st.t p.leaf p.key).1,p.leaf,(updR st.t p.leaf p.key).2):=if_pos hk
    rw [ht] at he ⊢
    rcases fold_upd (ok32 hr) p.leaf p.key with q | ⟨t',e,_,hn⟩
    · exact absurd he q
    · rw [e]; exact ⟨funext hn,rfl⟩
  · rw [fStep_skip st hk] at h
    cases h
    exact ⟨rfl,rfl⟩
theorem fPass2_names : ∀ {ps : List PropV} {st st' : FSt},rightT st.t→fPass 2 ps st = some st'→nameAt st'.t = nameAt st.t∧st'.fresh = st.fresh
  | [],st,st',_,h=>by cases h; exact ⟨rfl,rfl⟩
  | p :: ps,st,st',hr,h=>by
    simp only [fPass] at h
    cases hs : fStep 2 p st with
    | none=>rw [hs] at h; cases h
    | some s1 =>
      rw [hs] at h
      obtain ⟨a1,a2⟩:=fStep2_names hr hs
      obtain ⟨b1,b2⟩:=fPass2_names (fStep_right hr hs) h
      exact ⟨b1.trans a1,b2.trans a2⟩
theorem fStep3_names {p : PropV} {st st' : FSt} (hr : rightT st.t) (h : fStep 3 p st = some st') : nameAt st'.t = (if p.kind = 3 then setF (nameAt st.t) p.leaf.toNat [] else nameAt st.t)∧st'.fresh = st.fresh:=by
  by_cases hk : p.kind = 3
  · have he : (turnT st.t p).2.2 = 0:=Classical.byContradiction fun q=>by rw [fStep_err hk q] at h; cases h
    have hd : (turnT st.t p).2.1 ∉ st.old:=fun q=>by rw [fStep_dup hk (by decide) q] at h; cases h
    rw [fStep_old hk (by decide) he hd] at h
    cases h
    rw [if_pos hk]
    have ht : turnT st.t p = ((remR st.t p.leaf).1,p.leaf,(remR st.t p.leaf).2):=by unfold turnT; rw [if_neg (by omega),if_pos hk]
    rw [ht] at he ⊢
    rcases fold_rm (ok32 hr) p.leaf with q | ⟨t',l,hl,e,_,_,hn⟩
    · exact absurd he q
    · rw [e,hl,Int.toNat_natCast]; exact ⟨funext hn,rfl⟩
  · rw [fStep_skip st hk] at h
    cases h
    rw [if_neg hk]
    exact ⟨rfl,rfl⟩
theorem fPass3_names : ∀ {ps : List PropV} {st st' : FSt},rightT st.t→fPass 3 ps st = some st'→nameAt st'.t = remF ps (nameAt st.t)∧st'.fresh = st.fresh
  | [],st,st',_,h=>by cases h; exact ⟨rfl,rfl⟩
  | p :: ps,st,st',hr,h=>by
    simp only [fPass] at h
    cases hs : fStep 3 p st with
    | none=>rw [hs] at h; cases h
    | some s1 =>
      rw [hs] at h
      obtain ⟨a1,a2⟩:=fStep3_names hr hs
      obtain ⟨b1,b2⟩:=fPass3_names (fStep_right hr hs) h
      refine ⟨?_,b2.trans a2⟩
      rw [b1,a1]
      simp only [remF]
      split <;> rfl
theorem fPass1_names : ∀ {ps : List PropV} {st st' : FSt},rightT st.t→(∀ p ∈ ps,p.right)→fPass 1 ps st = some st'→∃ L,st'.fresh = st.fresh ++ L∧addsF ps (nameAt st.t) L (nameAt st'.t)
  | [],st,st',_,_,h=>by cases h; exact ⟨[],by simp,rfl,rfl⟩
  | p :: ps,st,st',hr,hp,h=>by
    simp only [fPass] at h
    cases hs : fStep 1 p st with
    | none=>rw [hs] at h; cases h
    | some s1 =>
      rw [hs] at h
      obtain ⟨L,b1,b2⟩:=fPass1_names (fStep_right hr hs) (fun q hq=>hp q (by simp [hq])) h
      by_cases hk : p.kind = 1
      · have he : (turnT st.t p).2.2 = 0:=Classical.byContradiction fun q=>by rw [fStep_err hk q] at hs; cases hs
        rw [fStep_add hk he] at hs
        cases hs
        have ht : turnT st.t p = ((addR st.t p.name p.key).1,((addR st.t p.name p.key).2.1 : Int),(addR st.t p.name p.key).2.2):=by unfold turnT; rw [if_neg (by omega),if_neg (by omega)]
        rw [ht] at he
        rw [ht] at b1 b2
        rcases fold_add (ok32 hr) p.name p.key with q | ⟨t',v,e,hv,hv1,hv2,_,hn⟩
        · exact absurd he q
        · rw [e] at b1 b2
          simp only at b1 b2
          refine ⟨(v : Int) :: L,by rw [b1]; simp,fun q=>absurd hk q,fun _=>⟨v,L,rfl,hv,fun k hk' q=>((name_nil hr k).1 q) (hv1 k hk'),(name_nil hr v).2 hv2,?_⟩⟩
          have hf : nameAt t' = setF (nameAt st.t) v p.name:=funext hn
          rw [hf] at b2
          exact b2
      · rw [fStep_skip st hk] at hs
        cases hs
        exact ⟨L,b1,fun _=>b2,fun q=>absurd q hk⟩
theorem foldF_names {t : List NodeV} (hr : rightT t) {sd : Int} {ps : List PropV} (hp : ∀ p ∈ ps,p.right) (h : (foldF t sd ps).2.2 = true) :
    addsF ps (remF ps (nameAt t)) (foldF t sd ps).2.1 (nameAt (foldF t sd ps).1):=by
  unfold foldF at h ⊢
  cases hps : passes ps [2,3,1] ⟨t,[sd],[]⟩ with
  | none=>rw [hps] at h; cases h
  | some st =>
    simp only
    simp only [passes] at hps
    cases h2 : fPass 2 ps ⟨t,[sd],[]⟩ with
    | none=>rw [h2] at hps; cases hps
    | some s2 =>
      rw [h2] at hps
      simp only [Option.bind_some] at hps
      cases h3 : fPass 3 ps s2 with
      | none=>rw [h3] at hps; cases hps
      | some s3 =>
        rw [h3] at hps
        simp only [Option.bind_some] at hps
        cases h1 : fPass 1 ps s3 with
        | none=>rw [h1] at hps; cases hps
        | some s1 =>
          rw [h1] at hps
          cases hps
          obtain ⟨a1,a2⟩:=fPass2_names hr h2
          obtain ⟨b1,b2⟩:=fPass3_names (fPass_right hr h2) h3
          obtain ⟨L,c1,c2⟩:=fPass1_names (fPass_right (fPass_right hr h2) h3) hp h1
          rw [b2,a2] at c1
          rw [b1,a1] at c2
          simp only [List.nil_append] at c1
          rw [c1]
          exact c2
theorem addsF_len : ∀ {ps : List PropV} {f f' : NmF} {L : List Int},addsF ps f L f'→L.length≤ps.length
  | [],f,f',L,h=>by rw [h.1]; simp
  | p :: ps,f,f',L,h=>by
    by_cases hk : p.kind = 1
    · obtain ⟨v,L',rfl,_,_,_,h'⟩:=h.2 hk
      have:=addsF_len h'
      simp only [List.length_cons]
      omega
    · have:=addsF_len (h.1 hk)
      simp only [List.length_cons]
      omega
def rowN (f : NmF) : List AV:=(List.range 64).map fun j=>strC (f j)
theorem rowN_len (f : NmF) : (rowN f).length = 64:=by simp [rowN]
theorem rowN_at (f : NmF) {k : Nat} (h : k < 64) : (List.drop k (rowN f))[0]? = some (strC (f k)):=by
  rw [List.getElem?_drop,Nat.add_zero]
  simp [rowN,h]
theorem rowN_set (f : NmF) {v : Nat} (h : v < 64) (nm : List UInt8) : (rowN f).set v (strC nm) = rowN (setF f v nm):=by
  apply List.ext_getElem
  · simp [rowN]
  · intro j h1 h2
    rw [List.getElem_set]
    simp only [rowN,List.getElem_map,List.getElem_range,setF]
    by_cases e : v = j
    · subst e; simp
    · rw [if_neg e,if_neg (fun q=>e q.symm)]
theorem rowN_zero : List.replicate 64 (strC []) = rowN fun _=>[]:=by
  apply List.ext_getElem
  · simp [rowN]
  · intro j h1 h2
    rw [List.getElem_replicate]
    simp only [rowN,List.getElem_map]
def cutF (f : NmF) (i : Nat) : NmF:=fun j=>if j < i then f j else []
theorem cutF_step (f : NmF) (i : Nat) : setF (cutF f i) i (f i) = cutF f (i + 1):=by
  funext j
  unfold setF cutF
  by_cases h : j = i
  · subst h; simp
  · by_cases h2 : j < i
    · rw [if_neg h,if_pos h2,if_pos (by omega)]
    · rw [if_neg h,if_neg h2,if_neg (by omega)]
theorem leaf_name {t : List NodeV} (h : rightT t) {i : Nat} (hi : 2 * i < t.length) : (nd t (2 * i)).name = nameAt t i:=by
  by_cases hm : memI t (i : Int)
  · exact (if_pos hm).symm
  · have hn : nameAt t i = []:=if_neg hm
    rw [hn]
    have hk : (nd t (2 * i)).kind≠1:=fun q=>hm ((memR_iff h.1 _).1 ⟨by omega,by omega,by rw [Int.toNat_natCast]; exact q⟩)
    have hf:=(h.2.1 _ hi).1
    rcases node_kind hf.1 with q | q | q
    · rw [(right_zero q).1 hf.1]; rfl
    · exact absurd q hk
    · rcases hf.2.1 with z | z
      · omega
      · exact absurd (z.2 (by omega)) hk
theorem cutF_all {t : List NodeV} (h : rightT t) {i : Nat} (hi : ¬ 2 * i < t.length) : cutF (nameAt t) i = nameAt t:=by
  funext j
  unfold cutF
  split
  · rfl
  · refine ((name_nil h j).2 fun hm=>?_).symm
    have:=(memI_lt hm)
    have h2:=lvs_lt this
    omega
end Go.AM
namespace Go.Proofs.YtfjlmkifiihgkaaGreatDoor
open Go Go.AM Go.Proofs
variable {Γ : Nat→List AV}
def CommitV.octets (c : CommitV) : List UInt8:=if c.right then c.text else []
end Go.Proofs.YtfjlmkifiihgkaaGreatDoor
namespace Go.Proofs.YtfjlmkifiihgkaaGreatDoor
open Go Go.AM Go.Proofs
variable {Γ : Nat→List AV}
def zero32 : List UInt8:=List.replicate 32 0
def c0 : CommitV:=⟨[103],0,0,[],false,⟨0,[],[]⟩,zero32,zero32⟩
end Go.Proofs.YtfjlmkifiihgkaaGreatDoor
namespace Go.Proofs.YtfjlmkifiihgkaaGreatDoor
open Go Go.AM Go.Proofs
variable {Γ : Nat→List AV}
theorem natNe {a b : Nat} (h : a≠b) : ((a : Int) != (b : Int)) = true:=by simp only [bne_iff_ne,ne_eq]; omega
theorem natEq {a b : Nat} (h : a = b) : ((a : Int) != (b : Int)) = false:=by subst h; simp
end Go.Proofs.YtfjlmkifiihgkaaGreatDoor
namespace Go.Proofs.YtfjlmkifiihgkaaGreatDoor
open Go Go.AM Go.Proofs
variable {Γ : Nat→List AV}
theorem great_calls (c : CommitV) (ha : c.wf) (s : AS) : ACalls Tryz.prog Γ 27 [.agg c.cells] s (fun r s'=>(∃ n,r = .v (.int .i64 n))∧s' = s):=by
 refine acalls_body Tryz.func27 rfl Tryz.ntmps27 Tryz.results27 (by simp) ?_
 obtain ⟨g,e,d,l,p,⟨uk,up,us⟩,c,m⟩:=c
 obtain ⟨hw,⟨_,hu,hul⟩,hl⟩:=ha
 simp only at hw hu hl hul
 unfold maxLen at hl hul
 unfold CommitV.cells
 simp only
 have hrow1:=fun i (h : i < l.length)=>row_at (c:=PropV.cells) (k:=5) (fun _=>rfl) h
 have hrow2:=fun i (h : i < us.length)=>row_at (c:=StepV.cells) (k:=2) (fun _=>rfl) h
 generalize rowC PropV.cells l = XX at *
 generalize rowC StepV.cells us = YY at *
 refine awp_reg_frz 1 (by simp [dsts]) ?_
 intro K hK
 simp only [↓DM,pval,DX,Nz,↓DN,Qa,Qb,Qc,Qd,Qe,Qf,Qg,Qh,reduceCtorEq,↓reduceIte,Na,Nb,Nc,Nk,Nf,Ng,Nh,Za,Zb,Zc,TT]
 intro o ho
 refine hK _ _ o _ (by simp only [upd,Nc,↓reduceIte]) ho ?_
 clear hK K ho
 refine jA ?_
 refine wK fun K1 hK1=>?_
 refine jA ?_
 refine awp_block ?_
 refine awp_loop (fun E s1=>∃ (i : Nat) (n : Int),i≤l.length∧E 4 = .v (.int .i64 i)∧E 3 = .v (.int .i64 n)∧E 1 = .rop [.sl 1 g.length (g.map byteV) .any,.v (.int .i64 e),.v (.int .i64 d),.sl 5 l.length XX .any,.v (.bool p),.v (.int .u64 uk),.sl 1 up.length (up.map byteV) .any,.sl 2 us.length YY .any,.sl 1 c.length (c.map byteV) .any,.sl 1 m.length (m.map byteV) .any]∧s1 = s)
  (fun E _=>match E 4 with | .v (.int _ i)=>l.length - i.toNat | _=>0) ?_ ?_
 ·exact ⟨0,_,Nat.zero_le _,by simp only [upd,↓reduceIte]; rfl,by simp only [upd,Nc,↓reduceIte]; rfl,by simp only [upd,Nc,↓reduceIte],rfl⟩
 ·rintro E1 s1 ⟨i,n,hi,g4,g3,g1,rfl⟩ -
  refine wK fun K2 hK2=>?_
  by_cases hi' : i < l.length
  ·refine jB (Ai @g4 (Ai @g1 (Ai @eye_lt_nat (decide_eq_true hi')))) ?_
   refine jE ?_
   refine awp_skip ?_
   refine hK2 _ _ ?_;clear hK2 K2
   refine wK fun K3 hK3=>?_
   refine awp_block ?_
   have hat:=hrow1 i hi'
   have hge : (0 : Int)≤(i : Int):=by omega
   generalize l[i] = y1 at *
   obtain ⟨k1,f1,n1,x1,i1⟩:=y1
   unfold PropV.cells at hat
   simp only at hat
   refine jD (Ai @g4 (Ai @g3 (Ai @g1 (Ai @eye_lt_nat (Ai @hi' (Ai @hge @hat)))))) ?_
   simp only [blockQ,thenQ,if_true,if_false]
   refine hK3 _ _ ?_;clear hK3 K3
   refine jD (Ai @g4 (eye_succM i (by omega))) ?_
   refine ⟨⟨i + 1,_,by omega,by simp only [upd,↓reduceIte],by simp only [upd,Nc,↓reduceIte]; rfl,by simp only [upd,g1,Nc,↓reduceIte],rfl⟩,?_⟩
   simp only [g4,upd,↓reduceIte]
   omega
  ·refine jB (Ai @g4 (Ai @g1 (Ai @eye_lt_nat (decide_eq_false hi')))) ?_
   refine jF ?_
   refine awp_exit ?_
   simp only [thenQ,blockQ,if_true]
   refine hK1 _ _ ?_;clear hK1 K1 hK2 K2
   refine wK fun K1 hK1=>?_
   refine jA ?_
   refine awp_block ?_
   refine awp_loop (fun E s2=>∃ (i : Nat) (n : Int),i≤us.length∧E 5 = .v (.int .i64 i)∧E 3 = .v (.int .i64 n)∧E 1 = .rop [.sl 1 g.length (g.map byteV) .any,.v (.int .i64 e),.v (.int .i64 d),.sl 5 l.length XX .any,.v (.bool p),.v (.int .u64 uk),.sl 1 up.length (up.map byteV) .any,.sl 2 us.length YY .any,.sl 1 c.length (c.map byteV) .any,.sl 1 m.length (m.map byteV) .any]∧s2 = s1)
    (fun E _=>match E 5 with | .v (.int _ i)=>us.length - i.toNat | _=>0) ?_ ?_
   ·exact ⟨0,_,Nat.zero_le _,by simp only [upd,↓reduceIte]; rfl,by simp only [upd,g3,Nc,↓reduceIte]; rfl,by simp only [upd,g1,Nc,↓reduceIte],rfl⟩
   ·clear g4 g3 g1 hi'
    rintro E2 s2 ⟨i,n,hi,g5,g3,g1,rfl⟩ -
    refine wK fun K2 hK2=>?_
    by_cases hi' : i < us.length
    ·refine jB (Ai @g5 (Ai @g1 (Ai @eye_lt_nat (decide_eq_true hi')))) ?_
     refine jE ?_
     refine awp_skip ?_
     refine hK2 _ _ ?_;clear hK2 K2
     refine wK fun K3 hK3=>?_
     refine awp_block ?_
     have hat:=hrow2 i hi'
     have hge : (0 : Int)≤(i : Int):=by omega
     have hsw:=hu us[i] (List.getElem_mem hi')
     generalize us[i] = y1 at *
     obtain ⟨k1,t1⟩:=y1
     obtain ⟨_,_,htl⟩:=hsw
     simp only at htl
     unfold maxLen at htl
     unfold StepV.cells at hat
     simp only at hat
     have hrow3:=fun i (h : i < t1.length)=>row_at (c:=SealV.cells) (k:=2) (fun _=>rfl) h
     generalize rowC SealV.cells t1 = T at *
     refine jB @g3 ?_
     refine jA ?_
     refine awp_block ?_
     refine awp_loop (fun E s3=>∃ (j : Nat) (n : Int),j≤t1.length∧E 6 = .v (.int .i64 j)∧E 5 = .v (.int .i64 i)∧E 3 = .v (.int .i64 n)∧E 1 = .rop [.sl 1 g.length (g.map byteV) .any,.v (.int .i64 e),.v (.int .i64 d),.sl 5 l.length XX .any,.v (.bool p),.v (.int .u64 uk),.sl 1 up.length (up.map byteV) .any,.sl 2 us.length YY .any,.sl 1 c.length (c.map byteV) .any,.sl 1 m.length (m.map byteV) .any]∧s3 = s2)
      (fun E _=>match E 6 with | .v (.int _ i)=>t1.length - i.toNat | _=>0) ?_ ?_
     ·exact ⟨0,_,Nat.zero_le _,by simp only [upd,↓reduceIte]; rfl,by simp only [upd,g5,Nc,↓reduceIte],by simp only [upd,Nc,↓reduceIte]; rfl,by simp only [upd,g1,Nc,↓reduceIte],rfl⟩
     ·have G5:=g5
      clear g5 g3 g1
      rintro E3 s3 ⟨j,n,hj,g6,g5,g3,g1,rfl⟩ -
      refine wK fun K4 hK4=>?_
      by_cases hj' : j < t1.length
      ·refine jB (Ai @g6 (Ai @g5 (Ai @g1 (Ai @eye_lt_nat (Ai @hi' (Ai @hge (Ai @hat (decide_eq_true hj')))))))) ?_
       refine jE ?_
       refine awp_skip ?_
       refine hK4 _ _ ?_;clear hK4 K4
       refine wK fun K5 hK5=>?_
       refine awp_block ?_
       have hbt:=hrow3 j hj'
       have hgj : (0 : Int)≤(j : Int):=by omega
       generalize t1[j] = z1 at *
       obtain ⟨q1,q2⟩:=z1
       unfold SealV.cells at hbt
       simp only at hbt
       refine jD (Ai @g6 (Ai @g5 (Ai @g3 (Ai @g1 (Ai @eye_lt_nat (Ai @hi' (Ai @hge (Ai @hat (Ai @hj' (Ai @hgj @hbt)))))))))) ?_
       simp only [blockQ,thenQ,if_true,if_false]
       refine hK5 _ _ ?_;clear hK5 K5
       refine jD (Ai @g6 (eye_succM j (by omega))) ?_
       refine ⟨⟨j + 1,_,by omega,by simp only [upd,↓reduceIte],by simp only [upd,g5,Nc,↓reduceIte],by simp only [upd,Nc,↓reduceIte]; rfl,by simp only [upd,g1,Nc,↓reduceIte],rfl⟩,?_⟩
       simp only [g6,upd,↓reduceIte]
       omega
      ·refine jB (Ai @g6 (Ai @g5 (Ai @g1 (Ai @eye_lt_nat (Ai @hi' (Ai @hge (Ai @hat (decide_eq_false hj')))))))) ?_
       refine jF ?_
       refine awp_exit ?_
       simp only [thenQ,blockQ,if_true]
       refine hK3 _ _ ?_;clear hK3 K3 hK4 K4
       refine jD (Ai @g5 (eye_succM i (by omega))) ?_
       refine ⟨⟨i + 1,_,by omega,by simp only [upd,↓reduceIte],by simp only [upd,g3,Nc,↓reduceIte]; rfl,by simp only [upd,g1,Nc,↓reduceIte],rfl⟩,?_⟩
       simp only [G5,upd,↓reduceIte]
       omega
    ·refine jB (Ai @g5 (Ai @g1 (Ai @eye_lt_nat (decide_eq_false hi')))) ?_
     refine jF ?_
     refine awp_exit ?_
     simp only [thenQ,blockQ,if_true]
     refine hK1 _ _ ?_;clear hK1 K1 hK2 K2
     refine jB @g3 ?_
     refine jI ?_
     exact ⟨_,_,AV.weak.refl _,AS.le.refl _,⟨n,rfl⟩,rfl⟩
end Go.Proofs.YtfjlmkifiihgkaaGreatDoor
namespace Go.Proofs.YtfjlmkifiihgkaaGreatDoor
open Go Go.AM Go.Proofs
variable {Γ : Nat→List AV}
theorem pubFoldT_cases (S : StV) (C : CommitV) (F : List NodeV × List Int × Bool) : (∃ e : Int,e≠0∧pubFoldT S C F = ([],[],e))∨(S.right∧C.right∧F.2.2 = true∧pubFoldT S C F = (F.1,F.2.1,0)):=by
 unfold pubFoldT
 by_cases h1 : S.right∧C.right
 ·rw [if_neg (fun k=>k h1)]
  by_cases h2 : C.group≠S.group
  ·exact .inl ⟨41,by decide,if_pos h2⟩
  ·rw [if_neg h2]
   by_cases h3 : C.epoch≠S.epoch
   ·exact .inl ⟨42,by decide,if_pos h3⟩
   ·rw [if_neg h3]
    by_cases h4 : S.epoch = 1048576
    ·exact .inl ⟨47,by decide,if_pos h4⟩
    ·rw [if_neg h4]
     by_cases h5 : ¬ memI S.tree C.sender
     ·exact .inl ⟨43,by decide,if_pos h5⟩
     ·rw [if_neg h5]
      by_cases h6 : F.2.2 = true
      ·exact .inr ⟨h1.1,h1.2,h6,if_pos h6⟩
      ·exact .inl ⟨44,by decide,if_neg h6⟩
 ·exact .inl ⟨12,by decide,if_pos h1⟩
theorem pubFoldG_calls (hG : Γ 3 = dB64.map u8C) (S : StV) (ht : S.wf) (C : CommitV) (hf : CommitV.fits C) (s : AS) :
  ACalls Tryz.prog Γ 28 [.agg S.cells,.agg C.cells] s (fun r s'=>r = .tup [treeN (pubFoldT S C (foldF S.tree C.sender C.props)).1,intsV (pubFoldT S C (foldF S.tree C.sender C.props)).2.1 .any,.v (.int .i64 (pubFoldT S C (foldF S.tree C.sender C.props)).2.2)]∧s' = s) :=
 pubFold_calls hG S ht C hf _ (fun hS hC _ s=>folded24_calls hG S.tree hS.2.2.2.1 C.sender C.props hC.1 hC.2.2.2.2.1 s) (fun hS _ _ h=>foldF_right hS.2.2.2.1 h) s
theorem strC_nil : AV.v (.string ⟨#[]⟩) = strC []:=rfl
theorem publicFolds_calls (hG0 : Γ 0 = stC Sha.H0) (hG1 : Γ 1 = Sha.K.map wV) (hG : Γ 3 = dB64.map u8C) (S : StV) (hkS : ∀ n ∈ S.tree,n.key < 2 ^ 64) (C : CommitV) (hw : C.wf) (s : AS) :
  ACalls Tryz.prog Γ 6 [.agg S.cells,.agg C.cells] s (fun r s'=>r = .v (.bool true)):=by
 refine acalls_body Tryz.func6 rfl Tryz.ntmps6 Tryz.results6 (by simp) ?_
 have haw:=fun s=>awake24_calls (Γ:=Γ) hG0 hG1 hG s
 have hsS:=fun s=>small24_calls (Γ:=Γ) S s
 have hgr:=fun s=>great_calls (Γ:=Γ) C hw s
 by_cases hS : smallS S
 ·rw [decide_eq_true hS] at hsS
  have hW:=smallS_W hS hkS
  have hfo:=fun s=>pubFoldG_calls (Γ:=Γ) hG S hW C (fits_of_wf hw) s
  have hcase:=pubFoldT_cases S C (foldF S.tree C.sender C.props)
  have hnames:=fun (h1 : S.right) (h2 : C.right) (h3 : (foldF S.tree C.sender C.props).2.2 = true)=>foldF_names h1.2.2.2.1 h2.1 h3
  have hFr:=fun (h1 : S.right) (h3 : (foldF S.tree C.sender C.props).2.2 = true)=>foldF_right h1.2.2.2.1 h3
  generalize pubFoldT S C (foldF S.tree C.sender C.props) = PT at *
  generalize foldF S.tree C.sender C.props = FF at *
  clear hS hW hw hG hG0 hG1 hkS
  have hSr : S.right→rightT S.tree:=fun h=>h.2.2.2.1
  have hCr : C.right→(∀ p ∈ C.props,p.right)∧C.props.length≤16:=fun h=>⟨h.1,h.2.2.2.2.1⟩
  obtain ⟨g,e,t,c,q⟩:=S
  obtain ⟨cg,ce,cs,cp,ch,cpa,cc,cm⟩:=C
  unfold StV.cells CommitV.cells at *
  simp only at *
  have hatN:=fun (i : Nat) (h : i < t.length)=>node_at (t:=t) h
  have hrow:=fun i (h : i < cp.length)=>row_at (c:=PropV.cells) (k:=5) (fun _=>rfl) h
  unfold treeV bytesV at *
  generalize rowC NodeV.cells t = X at *
  generalize rowC PropV.cells cp = CP at *
  generalize rowC StepV.cells cpa.steps = CS at *
  refine awp_reg_frz2 2 3 (by decide) (by decide) (by decide) ?_
  intro K hK
  simp only [↓DM,pval,DX,Nz,↓DN,Qa,Qb,Qc,Qd,Qe,Qf,Qg,Qh,reduceCtorEq,↓reduceIte,Na,Nb,Nc,Nk,Nf,Ng,Nh,Za,Zb,Zc,TT]
  intro o1 q1 o2 q3
  refine hK _ _ o1 o2 _ _ (by simp only [upd,Nc,↓reduceIte]) (by simp only [upd,Nc,↓reduceIte]) q1 (by rw [AS.set_objs_eq]; exact q3) ?_
  clear hK K q1 q3
  refine wK fun K hK=>?_
  refine jQ fun K hK=>?_
  refine acallk (haw _) ?_
  rintro r s1 ⟨rfl,rfl⟩
  simp only [↓DM,pval,DX,Nz,↓DN,Qa,Qb,Qc,Qd,Qe,Qf,Qg,Qh,reduceCtorEq,↓reduceIte,Na,Nb,Nc,Nk,Nf,Ng,Nh,Za,Zb,Zc,TT]
  refine acallk (hsS _) ?_
  rintro r s2 ⟨rfl,rfl⟩
  simp only [↓DM,pval,DX,Nz,↓DN,Qa,Qb,Qc,Qd,Qe,Qf,Qg,Qh,reduceCtorEq,↓reduceIte,Na,Nb,Nc,Nk,Nf,Ng,Nh,Za,Zb,Zc,TT]
  refine acallk (hgr _) ?_
  rintro r s3 ⟨⟨n,rfl⟩,rfl⟩
  by_cases hn : 6000 < n
  ·refine jV (decide_eq_true hn) hK ?_;clear hK K
   refine jE ?_
   refine jK (haw _) ?_;rintro s4 rfl
   refine jI ?_
   exact ⟨_,_,AV.weak.refl _,AS.le.refl _,rfl⟩
  ·refine jV (decide_eq_false hn) hK ?_;clear hK K
   refine jF ?_
   refine awp_skip ?_
   refine hK _ _ ?_;clear hK K
   refine jK (hfo _) ?_;rintro s4 rfl
   refine wK fun K hK=>?_
   rcases hcase with ⟨er,her,rfl⟩ | ⟨hS,hC,hok,rfl⟩
   ·have e0 : treeN [] = AV.v (.slice none 0 0):=if_pos rfl
    simp only
    rw [e0]
    unfold intsV
    refine jB (int_bne_true her) ?_
    refine jE ?_
    refine wS fun K hK=>?_
    simp only [↓DN,Qa,Qb,Qc,Qd,Qe,Qf,Qg,Qh,reduceCtorEq,↓reduceIte,Na,Nb,Nc,Nk,Nf,Ng,Nh,Za,Zb,Zc,TT,List.length_nil,show iadd .i64 0 ((0 : Nat) : Int) = 0 from rfl,show ((0 : Int) == 0) = true from rfl]
    refine hK _ _ ?_;clear hK K
    refine jI ?_
    exact ⟨_,_,AV.weak.refl _,AS.le.refl _,rfl⟩
   ·have hT:=hSr hS
    have hP:=hCr hC
    have hN:=hnames hS hC hok
    have hFT:=hFr hS hok
    clear hnames hFr hSr hCr hS hC hok hfo haw hsS hgr
    obtain ⟨FT,FL,FB⟩:=FF
    simp only at *
    have htF:=treeN_ne (right_ne hFT)
    have hfll:=addsF_len hN
    unfold treeV at htF
    rw [htF]
    have hatF:=fun (i : Nat) (h : i < FT.length)=>node_at (t:=FT) h
    generalize rowC NodeV.cells FT = XF at *
    have hleT:=hT.len
    have hleT2:=hleT.2.le
    have hleF:=hFT.len
    have hleF2:=hleF.2.le
    have heat:=fun (i : Nat) (h : i < FL.length)=>eat_int (l:=FL) h
    unfold intsV
    generalize hFC : FL.map intC = FC at *
    refine jB (show ((0 : Int) != 0) = false from rfl) ?_
    refine jF ?_
    refine awp_skip ?_
    refine hK _ _ ?_;clear hK K
    refine jQ fun K hK=>?_
    refine ⟨by decide,by decide,fun o ho=>?_⟩
    refine hK _ _ ?_;clear hK K
    have hcut0 : cutF (nameAt t) 0 = fun _=>[]:=by funext j; simp [cutF]
    obtain ⟨VS,hVS⟩ : ∃ VS,VS = AV.rop [.sl 1 g.length (g.map byteV) .any,.v (.int .i64 e),.sl 5 t.length X .any,.sl 1 c.length (c.map byteV) .any,.sl 1 q.length (q.map byteV) .any]:=⟨_,rfl⟩
    obtain ⟨VC,hVC⟩ : ∃ VC,VC = AV.rop [.sl 1 cg.length (cg.map byteV) .any,.v (.int .i64 ce),.v (.int .i64 cs),.sl 5 cp.length CP .any,.v (.bool ch),.v (.int .u64 cpa.key),.sl 1 cpa.parent.length (cpa.parent.map byteV) .any,.sl 2 cpa.steps.length CS .any,.sl 1 cc.length (cc.map byteV) .any,.sl 1 cm.length (cm.map byteV) .any]:=⟨_,rfl⟩
    refine (fun (k : ∀ (E : Env) (s5 : AS),s5.objs o = some (rowN (cutF (nameAt t) 0))→E 2 = VS→E 3 = VC→E 5 = .sl 5 FT.length XF .any→E 6 = .sl 1 FL.length FC .any→E 8 = .osl o 0 1 64 64→_)=>k _ _ (by rw [AS.set_objs_same,hcut0,← rowN_zero]; rfl) (by rw [hVS]; exact (by simp only [upd,Nc,↓reduceIte])) (by rw [hVC]; exact (by simp only [upd,Nc,↓reduceIte])) (by simp only [upd,Nc,↓reduceIte]) (by simp only [upd,Nc,↓reduceIte]) (by simp only [upd,Nc,↓reduceIte])) ?_
    clear ho hcut0
    intro E s5 hobj g2 g3 g5 g6 g8
    have hrl : ∀ f,(rowN f).length = 64:=rowN_len
    refine wK fun K hK=>?_
    refine jA ?_
    refine awp_block ?_
    refine awp_loop (fun E s6=>∃ i : Nat,2 * i≤t.length + 1∧E 9 = .v (.int .i64 i)∧s6.objs o = some (rowN (cutF (nameAt t) i))∧E 2 = VS∧E 3 = VC∧E 5 = .sl 5 FT.length XF .any∧E 6 = .sl 1 FL.length FC .any∧E 8 = .osl o 0 1 64 64)
     (fun E _=>match E 9 with | .v (.int _ i)=>t.length + 1 - i.toNat | _=>0) ?_ ?_
    ·exact ⟨0,by omega,by simp only [upd,Nc,↓reduceIte]; rfl,hobj,by simp only [upd,g2,Nc,↓reduceIte],by simp only [upd,g3,Nc,↓reduceIte],by simp only [upd,g5,Nc,↓reduceIte],by simp only [upd,g6,Nc,↓reduceIte],by simp only [upd,g8,Nc,↓reduceIte]⟩
    ·clear hobj g2 g3 g5 g6 g8
     rintro E1 s6 ⟨i,hi,g9,hobj,g2,g3,g5,g6,g8⟩ -
     have hm2:=imul2_nat i (by omega)
     by_cases hi' : 2 * i < t.length
     ·refine wK fun K2 hK2=>?_
      refine jB (Ai @g9 (Ai @g2 (Ai @hVS (Ai @hm2 (Ai @eye_lt_nat (decide_eq_true hi')))))) ?_
      refine jE ?_
      refine awp_skip ?_
      refine hK2 _ _ ?_;clear hK2 K2
      refine wK fun K3 hK3=>?_
      refine awp_block ?_
      have hge2 : (0 : Int)≤((2 * i : Nat) : Int):=by omega
      have hge : (0 : Int)≤((i : Nat) : Int):=by omega
      have hat:=hatN _ hi'
      have hln:=leaf_name hT hi'
      have hst:=rowN_set (cutF (nameAt t) i) (v:=i) (by omega) (nameAt t i)
      rw [cutF_step] at hst
      have hrl':=hrl (cutF (nameAt t) i)
      generalize rowN (cutF (nameAt t) i) = RW at *
      generalize nd t (2 * i) = N at *
      obtain ⟨nk,nm,ny,np,nu⟩:=N
      simp only at hln
      unfold NodeV.cells bytesV at hat
      simp only at hat
      have h64 : i < 64:=by omega
      unfold strC at hst
      rw [← hln] at hst
      refine jU (Ai @g8 (Ai @g9 (Ai @g2 (Ai @hVS (Ai @hm2 (Ai @eye_lt_nat (Ai @hi' (Ai @hge2 (Ai @hat (Ai @hobj (Ai @hge @h64))))))))))) fun K hK=>?_
      refine ⟨by omega,hK _ _ ?_⟩
      clear hK K
      refine hK3 _ _ ?_;clear hK3 K3
      refine jD (Ai @g9 (eye_succM i (by omega))) ?_
      refine ⟨⟨i + 1,by omega,by simp only [upd,Nc,↓reduceIte],?_,by simp only [upd,g2,Nc,↓reduceIte],by simp only [upd,g3,Nc,↓reduceIte],by simp only [upd,g5,Nc,↓reduceIte],by simp only [upd,g6,Nc,↓reduceIte],by simp only [upd,g8,Nc,↓reduceIte]⟩,?_⟩
      ·rw [AS.set_objs_same]
       exact congrArg some hst
      ·simp only [g9,upd,↓reduceIte]
       omega
     ·refine wK fun K2 hK2=>?_
      refine jB (Ai @g9 (Ai @g2 (Ai @hVS (Ai @hm2 (Ai @eye_lt_nat (decide_eq_false hi')))))) ?_
      refine jF ?_
      refine awp_exit ?_
      simp only [thenQ,blockQ,if_true]
      refine hK _ _ ?_;clear hK hK2 K2 K
      rw [cutF_all hT hi'] at hobj
      generalize nameAt t = f0 at *
      refine (fun (k : ∀ (E : Env) (s7 : AS),s7.objs o = some (rowN f0)→E 2 = VS→E 3 = VC→E 5 = .sl 5 FT.length XF .any→E 6 = .sl 1 FL.length FC .any→E 8 = .osl o 0 1 64 64→_)=>k _ _ hobj (by simp only [upd,g2,Nc,↓reduceIte]) (by simp only [upd,g3,Nc,↓reduceIte]) (by simp only [upd,g5,Nc,↓reduceIte]) (by simp only [upd,g6,Nc,↓reduceIte]) (by simp only [upd,g8,Nc,↓reduceIte])) ?_
      clear g9 hi hi' hm2 g2 g3 g5 g6 g8 hobj i
      intro E s6 hobj g2 g3 g5 g6 g8
      refine wK fun K hK=>?_
      refine jA ?_
      refine awp_block ?_
      refine awp_loop (fun E s7=>∃ (i : Nat) (f : NmF),i≤cp.length∧E 10 = .v (.int .i64 i)∧s7.objs o = some (rowN f)∧remF (cp.drop i) f = remF cp f0∧E 2 = VS∧E 3 = VC∧E 5 = .sl 5 FT.length XF .any∧E 6 = .sl 1 FL.length FC .any∧E 8 = .osl o 0 1 64 64)
       (fun E _=>match E 10 with | .v (.int _ i)=>cp.length - i.toNat | _=>0) ?_ ?_
      ·exact ⟨0,f0,Nat.zero_le _,by simp only [upd,Nc,↓reduceIte]; rfl,hobj,rfl,by simp only [upd,g2,Nc,↓reduceIte],by simp only [upd,g3,Nc,↓reduceIte],by simp only [upd,g5,Nc,↓reduceIte],by simp only [upd,g6,Nc,↓reduceIte],by simp only [upd,g8,Nc,↓reduceIte]⟩
      ·clear hobj g2 g3 g5 g6 g8
       rintro E2 s7 ⟨i,f,hi,g10,hobj,hrem,g2,g3,g5,g6,g8⟩ -
       by_cases hi' : i < cp.length
       ·refine wK fun K2 hK2=>?_
        refine jB (Ai @g10 (Ai @g3 (Ai @hVC (Ai @eye_lt_nat (decide_eq_true hi'))))) ?_
        refine jE ?_
        refine awp_skip ?_
        refine hK2 _ _ ?_;clear hK2 K2
        refine wK fun K3 hK3=>?_
        refine awp_block ?_
        have hge : (0 : Int)≤((i : Nat) : Int):=by omega
        have hrow':=hrow i hi'
        have hpr:=hP.1 _ (List.getElem_mem hi')
        rw [List.drop_eq_getElem_cons hi'] at hrem
        generalize cp[i] = p at *
        have hpl : 0≤p.leaf∧p.leaf < 32:=by rcases hpr with h | h | h <;> omega
        obtain ⟨pk,pl,pn,py,pi⟩:=p
        simp only at hpl
        unfold PropV.cells bytesV at hrow'
        simp only at hrow'
        have hnx : ∀ (E : Env) (s8 : AS) (f : NmF),s8.objs o = some (rowN f)→remF (cp.drop (i + 1)) f = remF cp f0→E 10 = .v (.int .i64 i)→E 2 = VS→E 3 = VC→E 5 = .sl 5 FT.length XF .any→E 6 = .sl 1 FL.length FC .any→E 8 = .osl o 0 1 64 64→K3 E s8:=by
         intro E s8 f hobj hrem g10' g2 g3 g5 g6 g8
         refine hK3 _ _ ?_;clear hK3 K3
         refine jD (Ai @g10' (eye_succM i (by omega))) ?_
         refine ⟨⟨i + 1,f,by omega,by simp only [upd,Nc,↓reduceIte],hobj,hrem,by simp only [upd,g2,Nc,↓reduceIte],by simp only [upd,g3,Nc,↓reduceIte],by simp only [upd,g5,Nc,↓reduceIte],by simp only [upd,g6,Nc,↓reduceIte],by simp only [upd,g8,Nc,↓reduceIte]⟩,?_⟩
         simp only [g10,upd,↓reduceIte]
         omega
        clear hK3
        by_cases hk : pk = 3
        ·simp only [remF,if_pos hk] at hrem
         obtain ⟨l,rfl⟩:=Int.eq_ofNat_of_zero_le hpl.1
         rw [Int.toNat_natCast] at hrem
         have hgl : (0 : Int)≤((l : Nat) : Int):=by omega
         have hl64 : l < 64:=by omega
         have hrl':=hrl f
         have hst:=rowN_set f hl64 []
         rw [← strC_nil] at hst
         refine jB (Ai @g3 (Ai @hVC (Ai @g10 (Ai @eye_lt_nat (Ai @hi' (Ai @hge (Ai @hrow' (int_eq_yes hk)))))))) ?_
         refine jE ?_
         refine jU (Ai @g8 (Ai @g3 (Ai @hVC (Ai @g10 (Ai @eye_lt_nat (Ai @hi' (Ai @hge (Ai @hrow' (Ai @hobj (Ai @hgl @hl64)))))))))) fun K hK=>?_
         refine ⟨by omega,hK _ _ ?_⟩
         clear hK K
         rw [hst]
         exact hnx _ _ (setF f l []) (AS.set_objs_same _ _ _) hrem (by simp only [upd,g10,Nc,↓reduceIte]) (by simp only [upd,g2,Nc,↓reduceIte]) (by simp only [upd,g3,Nc,↓reduceIte]) (by simp only [upd,g5,Nc,↓reduceIte]) (by simp only [upd,g6,Nc,↓reduceIte]) (by simp only [upd,g8,Nc,↓reduceIte])
        ·simp only [remF,if_neg hk] at hrem
         refine jB (Ai @g3 (Ai @hVC (Ai @g10 (Ai @eye_lt_nat (Ai @hi' (Ai @hge (Ai @hrow' (int_eq_no hk)))))))) ?_
         refine jF ?_
         refine awp_skip ?_
         exact hnx _ _ f hobj hrem (by simp only [upd,g10,Nc,↓reduceIte]) (by simp only [upd,g2,Nc,↓reduceIte]) (by simp only [upd,g3,Nc,↓reduceIte]) (by simp only [upd,g5,Nc,↓reduceIte]) (by simp only [upd,g6,Nc,↓reduceIte]) (by simp only [upd,g8,Nc,↓reduceIte])
       ·refine wK fun K2 hK2=>?_
        refine jB (Ai @g10 (Ai @g3 (Ai @hVC (Ai @eye_lt_nat (decide_eq_false hi'))))) ?_
        refine jF ?_
        refine awp_exit ?_
        simp only [thenQ,blockQ,if_true,if_false,Nc]
        refine hK _ _ ?_;clear hK hK2 K2 K
        obtain rfl : i = cp.length:=by omega
        rw [List.drop_length] at hrem
        simp only [remF] at hrem
        rw [← hrem] at hN
        refine (fun (k : ∀ (E : Env) (s7 : AS),s7.objs o = some (rowN f)→E 2 = VS→E 3 = VC→E 5 = .sl 5 FT.length XF .any→E 6 = .sl 1 FL.length FC .any→E 8 = .osl o 0 1 64 64→_)=>k _ _ hobj (by simp only [upd,g2,Nc,↓reduceIte]) (by simp only [upd,g3,Nc,↓reduceIte]) (by simp only [upd,g5,Nc,↓reduceIte]) (by simp only [upd,g6,Nc,↓reduceIte]) (by simp only [upd,g8,Nc,↓reduceIte])) ?_
        clear g10 hi hi' g2 g3 g5 g6 g8 hobj hrem
        intro E s7 hobj g2 g3 g5 g6 g8
        refine jA ?_
        refine wK fun K hK=>?_
        refine jA ?_
        refine awp_block ?_
        obtain ⟨f1,hf1⟩ : ∃ f1,f1 = nameAt FT:=⟨_,rfl⟩
        rw [← hf1] at hN
        refine awp_loop (fun E s8=>∃ (i n : Nat) (f : NmF),i≤cp.length∧n≤FL.length∧E 12 = .v (.int .i64 i)∧E 11 = .v (.int .i64 n)∧s8.objs o = some (rowN f)∧addsF (cp.drop i) f (FL.drop n) f1∧E 2 = VS∧E 3 = VC∧E 5 = .sl 5 FT.length XF .any∧E 6 = .sl 1 FL.length FC .any∧E 8 = .osl o 0 1 64 64)
         (fun E _=>match E 12 with | .v (.int _ i)=>cp.length - i.toNat | _=>0) ?_ ?_
        ·exact ⟨0,0,f,Nat.zero_le _,Nat.zero_le _,by simp only [upd,Nc,↓reduceIte]; rfl,by simp only [upd,Nc,↓reduceIte]; rfl,hobj,hN,by simp only [upd,g2,Nc,↓reduceIte],by simp only [upd,g3,Nc,↓reduceIte],by simp only [upd,g5,Nc,↓reduceIte],by simp only [upd,g6,Nc,↓reduceIte],by simp only [upd,g8,Nc,↓reduceIte]⟩
        ·clear hobj hN g2 g3 g5 g6 g8 f
         rintro E3 s8 ⟨i,n,f,hi,hn,g12,g11,hobj,hadd,g2,g3,g5,g6,g8⟩ -
         by_cases hi' : i < cp.length
         ·refine wK fun K2 hK2=>?_
          refine jB (Ai @g12 (Ai @g3 (Ai @hVC (Ai @eye_lt_nat (decide_eq_true hi'))))) ?_
          refine jE ?_
          refine awp_skip ?_
          refine hK2 _ _ ?_;clear hK2 K2
          refine wK fun K3 hK3=>?_
          refine awp_block ?_
          have hge : (0 : Int)≤((i : Nat) : Int):=by omega
          have hrow':=hrow i hi'
          rw [List.drop_eq_getElem_cons hi'] at hadd
          generalize cp[i] = p at *
          obtain ⟨pk,pl,pn,py,pi⟩:=p
          unfold PropV.cells bytesV at hrow'
          simp only at hrow'
          have hnx : ∀ (E : Env) (s9 : AS) (n : Nat) (f : NmF),n≤FL.length→s9.objs o = some (rowN f)→addsF (cp.drop (i + 1)) f (FL.drop n) f1→E 12 = .v (.int .i64 i)→E 11 = .v (.int .i64 n)→E 2 = VS→E 3 = VC→E 5 = .sl 5 FT.length XF .any→E 6 = .sl 1 FL.length FC .any→E 8 = .osl o 0 1 64 64→K3 E s9:=by
           intro E s9 n f hn hobj hadd g12' g11 g2 g3 g5 g6 g8
           refine hK3 _ _ ?_;clear hK3 K3
           refine jD (Ai @g12' (eye_succM i (by omega))) ?_
           refine ⟨⟨i + 1,n,f,by omega,hn,by simp only [upd,Nc,↓reduceIte],by simp only [upd,g11,Nc,↓reduceIte],hobj,hadd,by simp only [upd,g2,Nc,↓reduceIte],by simp only [upd,g3,Nc,↓reduceIte],by simp only [upd,g5,Nc,↓reduceIte],by simp only [upd,g6,Nc,↓reduceIte],by simp only [upd,g8,Nc,↓reduceIte]⟩,?_⟩
           simp only [g12,upd,↓reduceIte]
           omega
          clear hK3
          by_cases hk : pk = 1
          ·obtain ⟨v,L',hL,hv32,hv1,hv2,hadd'⟩:=hadd.2 hk
           have hn' : n < FL.length:=by
            rcases Nat.lt_or_ge n FL.length with h | h
            ·exact h
            ·rw [List.drop_of_length_le h] at hL; cases hL
           rw [List.drop_eq_getElem_cons hn',List.cons.injEq] at hL
           obtain ⟨hL1,hL2⟩:=hL
           have heat':=heat n hn'
           rw [hL1] at heat'
           rw [← hL2] at hadd'
           clear hadd hL1 hL2
           refine jB (Ai @g3 (Ai @hVC (Ai @g12 (Ai @eye_lt_nat (Ai @hi' (Ai @hge (Ai @hrow' (int_eq_yes hk)))))))) ?_
           refine jE ?_
           refine jA ?_
           refine wK fun K7 hK7=>?_
           refine awp_block ?_
           have hrl':=hrl f
           have hat1:=fun (j : Nat) (h : j < 64)=>rowN_at f h
           have hst:=rowN_set f (v:=v) (by omega) pn
           unfold strC at hst hat1
           refine awp_loop (fun E s9=>∃ a : Nat,a≤v∧E 13 = .v (.int .i64 a)∧E 12 = .v (.int .i64 i)∧E 11 = .v (.int .i64 n)∧s9 = s8∧E 2 = VS∧E 3 = VC∧E 5 = .sl 5 FT.length XF .any∧E 6 = .sl 1 FL.length FC .any∧E 8 = .osl o 0 1 64 64)
            (fun E _=>match E 13 with | .v (.int _ i)=>v - i.toNat | _=>0) ?_ ?_
           ·exact ⟨0,Nat.zero_le _,by simp only [upd,Nc,↓reduceIte]; rfl,by simp only [upd,g12,Nc,↓reduceIte],by simp only [upd,g11,Nc,↓reduceIte],rfl,by simp only [upd,g2,Nc,↓reduceIte],by simp only [upd,g3,Nc,↓reduceIte],by simp only [upd,g5,Nc,↓reduceIte],by simp only [upd,g6,Nc,↓reduceIte],by simp only [upd,g8,Nc,↓reduceIte]⟩
           ·clear g2 g3 g5 g6 g8 g11
            rintro E4 s9 ⟨a,ha,g13,k12,g11,rfl,g2,g3,g5,g6,g8⟩ -
            have hga : (0 : Int)≤((a : Nat) : Int):=by omega
            have ha64 : a < 64:=by omega
            have hat2:=hat1 a ha64
            by_cases hav : a < v
            ·have hne : (f a == ([] : List UInt8)) = false:=by simpa using hv1 a hav
             refine wK fun K8 hK8=>?_
             refine wS fun K hK=>?_
             simp only [↓DN,Qa,Qb,Qc,Qd,Qe,Qf,Qg,Qh,reduceCtorEq,↓reduceIte,Na,Nb,Nc,Nk,Nf,Ng,Nh,Za,Zb,Zc,TT,g8,g13,hobj,hga,ha64,eye_lt_nat,hat2,hne,List.toList_toArray]
             refine hK _ _ ?_;clear hK K
             refine jE ?_
             refine awp_skip ?_
             refine hK8 _ _ ?_;clear hK8 K8
             refine awp_block ?_
             refine jD (Ai @g13 (eye_succM a (by omega))) ?_
             refine ⟨⟨a + 1,by omega,by simp only [upd,Nc,↓reduceIte],by simp only [upd,k12,Nc,↓reduceIte],by simp only [upd,g11,Nc,↓reduceIte],rfl,by simp only [upd,g2,Nc,↓reduceIte],by simp only [upd,g3,Nc,↓reduceIte],by simp only [upd,g5,Nc,↓reduceIte],by simp only [upd,g6,Nc,↓reduceIte],by simp only [upd,g8,Nc,↓reduceIte]⟩,?_⟩
             simp only [g13,upd,↓reduceIte]
             omega
            ·obtain rfl : a = v:=by omega
             rw [hv2] at hat2
             refine wK fun K8 hK8=>?_
             refine wS fun K hK=>?_
             simp only [↓DN,Qa,Qb,Qc,Qd,Qe,Qf,Qg,Qh,reduceCtorEq,↓reduceIte,Na,Nb,Nc,Nk,Nf,Ng,Nh,Za,Zb,Zc,TT,g8,g13,hobj,hga,ha64,eye_lt_nat,hat2,List.toList_toArray,show (([] : List UInt8) != []) = false from rfl]
             refine hK _ _ ?_;clear hK K
             refine jF ?_
             refine awp_exit ?_
             simp only [thenQ,blockQ,if_true,if_false,Nc]
             refine hK7 _ _ ?_;clear hK7 hK8 K8 K7
             have hgn : (0 : Int)≤((n : Nat) : Int):=by omega
             refine wK fun K8 hK8=>?_
             refine jB (Ai @g11 (Ai @g6 (Ai @g13 (Ai @hgn (Ai @hn' (Ai @eye_lt_nat (Ai @heat' (Ai (decide_eq_false (show ¬ (FL.length : Int)≤(n : Int) by omega)) (show (((a : Nat) : Int) != ((a : Nat) : Int)) = false from by simp))))))))) ?_
             refine jF ?_
             refine awp_skip ?_
             refine hK8 _ _ ?_;clear hK8 K8
             refine jS (Ai @g8 (Ai @g13 (Ai @g3 (Ai @hVC (Ai @k12 (Ai @eye_lt_nat (Ai @hi' (Ai @hge (Ai @hrow' (Ai @hobj (Ai @hga @ha64))))))))))) fun K hK=>?_
             refine ⟨by omega,hK _ _ ?_⟩
             clear hK K
             rw [hst]
             refine jD (Ai @g11 (eye_succM n (by omega))) ?_
             exact hnx _ _ (n + 1) (setF f a pn) (by omega) (AS.set_objs_same _ _ _) hadd' (by simp only [upd,k12,Nc,↓reduceIte]) (by simp only [upd,Nc,↓reduceIte]) (by simp only [upd,g2,Nc,↓reduceIte]) (by simp only [upd,g3,Nc,↓reduceIte]) (by simp only [upd,g5,Nc,↓reduceIte]) (by simp only [upd,g6,Nc,↓reduceIte]) (by simp only [upd,g8,Nc,↓reduceIte])
          ·refine jB (Ai @g3 (Ai @hVC (Ai @g12 (Ai @eye_lt_nat (Ai @hi' (Ai @hge (Ai @hrow' (int_eq_no hk)))))))) ?_
           refine jF ?_
           refine awp_skip ?_
           exact hnx _ _ n f hn hobj (hadd.1 hk) (by simp only [upd,g12,Nc,↓reduceIte]) (by simp only [upd,g11,Nc,↓reduceIte]) (by simp only [upd,g2,Nc,↓reduceIte]) (by simp only [upd,g3,Nc,↓reduceIte]) (by simp only [upd,g5,Nc,↓reduceIte]) (by simp only [upd,g6,Nc,↓reduceIte]) (by simp only [upd,g8,Nc,↓reduceIte])
         ·refine wK fun K2 hK2=>?_
          refine jB (Ai @g12 (Ai @g3 (Ai @hVC (Ai @eye_lt_nat (decide_eq_false hi'))))) ?_
          refine jF ?_
          refine awp_exit ?_
          simp only [thenQ,blockQ,if_true,if_false,Nc]
          refine hK _ _ ?_;clear hK hK2 K2 K
          obtain rfl : i = cp.length:=by omega
          rw [List.drop_length] at hadd
          obtain ⟨hL,rfl⟩:=hadd
          have hnn : n = FL.length:=by
           have:=congrArg List.length hL
           rw [List.length_drop,List.length_nil] at this
           omega
          subst hnn
          refine (fun (k : ∀ (E : Env) (s8 : AS),s8.objs o = some (rowN f1)→E 11 = .v (.int .i64 FL.length)→E 2 = VS→E 3 = VC→E 5 = .sl 5 FT.length XF .any→E 6 = .sl 1 FL.length FC .any→E 8 = .osl o 0 1 64 64→_)=>k _ _ hobj (by simp only [upd,g11,Nc,↓reduceIte]) (by simp only [upd,g2,Nc,↓reduceIte]) (by simp only [upd,g3,Nc,↓reduceIte]) (by simp only [upd,g5,Nc,↓reduceIte]) (by simp only [upd,g6,Nc,↓reduceIte]) (by simp only [upd,g8,Nc,↓reduceIte])) ?_
          clear g12 g11 hi hi' g2 g3 g5 g6 g8 hobj hL hn
          intro E s8 hobj g11 g2 g3 g5 g6 g8
          have hfn:=fun (j : Nat) (h : 2 * j < FT.length)=>leaf_name hFT h
          have hfo':=fun (j : Nat) (h : ¬ 2 * j < FT.length)=>show f1 j = [] from by
           rw [hf1]
           refine (name_nil hFT j).2 fun hm=>?_
           have:=lvs_lt (memI_lt hm)
           omega
          rw [← hf1] at hfn
          have hat1:=fun (j : Nat) (h : j < 64)=>rowN_at f1 h
          have hrl':=hrl f1
          unfold strC at hat1
          generalize rowN f1 = RW at *
          refine wK fun K hK=>?_
          refine jA ?_
          refine awp_block ?_
          refine awp_loop (fun E s9=>∃ i : Nat,i≤32∧E 14 = .v (.int .i64 i)∧E 11 = .v (.int .i64 FL.length)∧s9 = s8∧E 2 = VS∧E 3 = VC∧E 5 = .sl 5 FT.length XF .any∧E 6 = .sl 1 FL.length FC .any∧E 8 = .osl o 0 1 64 64)
           (fun E _=>match E 14 with | .v (.int _ i)=>32 - i.toNat | _=>0) ?_ ?_
          ·exact ⟨0,Nat.zero_le _,by simp only [upd,Nc,↓reduceIte]; rfl,by simp only [upd,g11,Nc,↓reduceIte],rfl,by simp only [upd,g2,Nc,↓reduceIte],by simp only [upd,g3,Nc,↓reduceIte],by simp only [upd,g5,Nc,↓reduceIte],by simp only [upd,g6,Nc,↓reduceIte],by simp only [upd,g8,Nc,↓reduceIte]⟩
          ·clear g11 g2 g3 g5 g6 g8
           rintro E5 s9 ⟨i,hi,g14,g11,rfl,g2,g3,g5,g6,g8⟩ -
           by_cases hi' : i < 32
           ·refine wK fun K2 hK2=>?_
            refine jB (Ai @g14 (decide_eq_true (show ((i : Nat) : Int) < 32 by omega))) ?_
            refine jE ?_
            refine awp_skip ?_
            refine hK2 _ _ ?_;clear hK2 K2
            refine wK fun K3 hK3=>?_
            refine awp_block ?_
            have hge : (0 : Int)≤((i : Nat) : Int):=by omega
            have h64 : i < 64:=by omega
            have hat2:=hat1 i h64
            have hm2:=imul2_nat i (by omega)
            refine jA ?_
            refine wK fun K4 hK4=>?_
            have hgo : ∀ E : Env,E 15 = .v (.string ⟨(f1 i).toArray⟩)→E 14 = .v (.int .i64 i)→E 11 = .v (.int .i64 FL.length)→E 2 = VS→E 3 = VC→E 5 = .sl 5 FT.length XF .any→E 6 = .sl 1 FL.length FC .any→E 8 = .osl o 0 1 64 64→K4 E s9:=by
             intro E g15 g14' g11 g2 g3 g5 g6 g8
             refine hK4 _ _ ?_;clear hK4 K4
             have hss : (f1 i != f1 i) = false:=by simp
             refine wS fun K hK=>?_
             simp only [↓DN,Qa,Qb,Qc,Qd,Qe,Qf,Qg,Qh,reduceCtorEq,↓reduceIte,Na,Nb,Nc,Nk,Nf,Ng,Nh,Za,Zb,Zc,TT,g15,g8,g14',hobj,hge,h64,eye_lt_nat,hat2,hss,List.toList_toArray]
             refine hK _ _ ?_;clear hK K
             refine jF ?_
             refine awp_skip ?_
             refine hK3 _ _ ?_;clear hK3 K3
             refine jD (Ai @g14' (eye_succM i (by omega))) ?_
             refine ⟨⟨i + 1,by omega,by simp only [upd,Nc,↓reduceIte],by simp only [upd,g11,Nc,↓reduceIte],rfl,by simp only [upd,g2,Nc,↓reduceIte],by simp only [upd,g3,Nc,↓reduceIte],by simp only [upd,g5,Nc,↓reduceIte],by simp only [upd,g6,Nc,↓reduceIte],by simp only [upd,g8,Nc,↓reduceIte]⟩,?_⟩
             simp only [g14,upd,↓reduceIte]
             omega
            clear hK4
            by_cases h2 : 2 * i < FT.length
            ·have hge2 : (0 : Int)≤((2 * i : Nat) : Int):=by omega
             have hat:=hatF _ h2
             have hln:=hfn i h2
             generalize nd FT (2 * i) = N at *
             obtain ⟨nk,nm,ny,np,nu⟩:=N
             simp only at hln
             unfold NodeV.cells bytesV at hat
             simp only at hat
             refine jB (Ai @g14 (Ai @g5 (Ai @hm2 (Ai @eye_lt_nat (decide_eq_true h2))))) ?_
             refine jE ?_
             refine jD (Ai @g14 (Ai @g5 (Ai @hm2 (Ai @eye_lt_nat (Ai @h2 (Ai @hge2 @hat)))))) ?_
             rw [hln]
             exact hgo _ (by simp only [upd,Nc,↓reduceIte]) (by simp only [upd,g14,Nc,↓reduceIte]) (by simp only [upd,g11,Nc,↓reduceIte]) (by simp only [upd,g2,Nc,↓reduceIte]) (by simp only [upd,g3,Nc,↓reduceIte]) (by simp only [upd,g5,Nc,↓reduceIte]) (by simp only [upd,g6,Nc,↓reduceIte]) (by simp only [upd,g8,Nc,↓reduceIte])
            ·have hz:=hfo' i h2
             refine jB (Ai @g14 (Ai @g5 (Ai @hm2 (Ai @eye_lt_nat (decide_eq_false h2))))) ?_
             refine jF ?_
             refine awp_skip ?_
             exact hgo _ (by rw [hz]; exact (by simp only [upd,Nc,↓reduceIte])) (by simp only [upd,g14,Nc,↓reduceIte]) (by simp only [upd,g11,Nc,↓reduceIte]) (by simp only [upd,g2,Nc,↓reduceIte]) (by simp only [upd,g3,Nc,↓reduceIte]) (by simp only [upd,g5,Nc,↓reduceIte]) (by simp only [upd,g6,Nc,↓reduceIte]) (by simp only [upd,g8,Nc,↓reduceIte])
           ·refine wK fun K2 hK2=>?_
            refine jB (Ai @g14 (decide_eq_false (show ¬ ((i : Nat) : Int) < 32 by omega))) ?_
            refine jF ?_
            refine awp_exit ?_
            simp only [thenQ,blockQ,if_true,if_false,Nc]
            refine hK _ _ ?_;clear hK hK2 K2 K
            refine jB (Ai @g11 (Ai @g6 (show (((FL.length : Nat) : Int) == ((FL.length : Nat) : Int)) = true from by simp))) ?_
            refine jI ?_
            exact ⟨_,_,AV.weak.refl _,AS.le.refl _,rfl⟩
 ·rw [decide_eq_false hS] at hsS
  clear hG hG0 hG1 hkS hS
  unfold StV.cells CommitV.cells at *
  unfold treeV bytesV at *
  generalize rowC NodeV.cells S.tree = X at *
  generalize rowC PropV.cells C.props = CP at *
  generalize rowC StepV.cells C.path.steps = CS at *
  refine awp_reg_frz2 2 3 (by decide) (by decide) (by decide) ?_
  intro K hK
  simp only [↓DM,pval,DX,Nz,↓DN,Qa,Qb,Qc,Qd,Qe,Qf,Qg,Qh,reduceCtorEq,↓reduceIte,Na,Nb,Nc,Nk,Nf,Ng,Nh,Za,Zb,Zc,TT]
  intro o1 q1 o2 q3
  refine hK _ _ o1 o2 _ _ (by simp only [upd,Nc,↓reduceIte]) (by simp only [upd,Nc,↓reduceIte]) q1 (by rw [AS.set_objs_eq]; exact q3) ?_
  clear hK K q1 q3
  refine wK fun K hK=>?_
  refine jQ fun K hK=>?_
  refine acallk (haw _) ?_
  rintro r s1 ⟨rfl,rfl⟩
  simp only [↓DM,pval,DX,Nz,↓DN,Qa,Qb,Qc,Qd,Qe,Qf,Qg,Qh,reduceCtorEq,↓reduceIte,Na,Nb,Nc,Nk,Nf,Ng,Nh,Za,Zb,Zc,TT]
  refine acallk (hsS _) ?_
  rintro r s2 ⟨rfl,rfl⟩
  refine jR hK ?_;clear hK K
  refine jE ?_
  refine jK (haw _) ?_;rintro s3 rfl
  refine jI ?_
  exact ⟨_,_,AV.weak.refl _,AS.le.refl _,rfl⟩
end Go.Proofs.YtfjlmkifiihgkaaGreatDoor
namespace Go.Proofs.YtfjlmkifiihgkaaGreatDoor
open Go Go.AM Go.Proofs
def dB32 : List Nat:=[0,1,28,2,29,14,24,3,30,22,20,15,25,17,4,8,31,27,13,23,21,19,16,7,26,12,18,6,11,5,10,9]
def Γd (g : Nat) : List AV:=if g = 0 then [wV Sha.H0.a,wV Sha.H0.b,wV Sha.H0.c,wV Sha.H0.d,wV Sha.H0.e,wV Sha.H0.f,wV Sha.H0.g,wV Sha.H0.h] else if g = 1 then Sha.K.map wV else if g = 2 then dB32.map u8C else if g = 3 then dB64.map u8C else []
abbrev laidD : List (String × DataW Unit):=[("math/bits.deBruijn32tab", Rows.laid_math_bits_deBruijn32tab),("math/bits.deBruijn64tab", Rows.laid_math_bits_deBruijn64tab),("engrosser/sha.rounds", Rows.laid_engrosser_sha_rounds),("engrosser/sha.start", Rows.laid_engrosser_sha_start)]
theorem ints_of_trod {H : Type} {enc : TypeId × Value→H} {P : Program} {W : World} {base : Nat} {sp : Nat→Bool} {held : Bool} {fuel : Nat} {t e : TypeId} {n : Nat} {cs : List Value} {p : List MemPlace} {l : List Nat} {kd : IntKind}
    (hT : P.underlying t = some (.array n e)) (he : P.underlying e = some (.int kd)) (hc : P.cellsOf e = 1)
    (h : DataW.trod enc P W base sp held fuel t cs = some (.agg (l.map fun (x : Nat)=>.lit (.int kd (x : Int))),p)) : ∀ (i x : Nat),l[i]? = some x→cs[i]? = some (.int kd (x : Int)):=by
  obtain ⟨xs,m,rfl,hx,hlen,hn,hel⟩:=DataW.trod_array hT h
  simp only [Prod.mk.injEq,DataW.agg.injEq] at hx
  intro i x hi
  have h1 : (l.map fun (x : Nat)=>DataW.lit (H:=H) (.int kd (x : Int)))[i]? = some (.lit (.int kd (x : Int))):=by rw [List.getElem?_map,hi]; rfl
  rw [hx.1,List.getElem?_map] at h1
  cases hy : xs[i]? with
  | none=>rw [hy] at h1; cases h1
  | some y =>
    rw [hy] at h1
    simp only [Option.map_some,Option.some.injEq] at h1
    have hlt:=(List.getElem?_eq_some_iff.1 hy).1
    have h2:=hel i (by omega)
    rw [hy,hc,Nat.mul_one] at h2
    obtain ⟨k,e1,e2,_⟩:=DataW.trod_int he h2
    rw [e2] at h1
    simp only [DataW.lit.injEq,Lit.int.injEq,true_and] at h1
    have h3 : (List.take 1 (List.drop i cs))[0]? = some (.int kd k):=by rw [e1]; rfl
    rw [List.getElem?_take,if_pos (by decide),List.getElem?_drop,Nat.add_zero,h1] at h3
    exact h3
theorem gRounds : Tryz.prog.globalNamed "engrosser/sha.rounds" = some 1:=by kernel_rfl
theorem gStart : Tryz.prog.globalNamed "engrosser/sha.start" = some 0:=by kernel_rfl
theorem gB32 : Tryz.prog.globalNamed "math/bits.deBruijn32tab" = some 2:=by kernel_rfl
theorem gB64 : Tryz.prog.globalNamed "math/bits.deBruijn64tab" = some 3:=by kernel_rfl
theorem tRounds : (Tryz.prog.globals[1]?).map (·.type) = some 265:=by kernel_rfl
theorem tStart : (Tryz.prog.globals[0]?).map (·.type) = some 214:=by kernel_rfl
theorem tB32 : (Tryz.prog.globals[2]?).map (·.type) = some 283:=by kernel_rfl
theorem tB64 : (Tryz.prog.globals[3]?).map (·.type) = some 284:=by kernel_rfl
theorem words_at {kd : IntKind} {W : World} {g : Nat} {cs : Array Value} {l : List Nat} (hc : ∀ i,W.cell? ⟨g,i,none⟩ = cs[i]?) (h : ∀ (i x : Nat),l[i]? = some x→cs.toList[i]? = some (.int kd (x : Int))) :
    ∃ vs,VRels (G0 W) (l.map fun (x : Nat)=>.v (.int kd (x : Int))) vs∧RoAt (G0 W) g 0 vs:=by
  refine ⟨l.map fun (x : Nat)=>.int kd (x : Int),?_,?_⟩
  · have:=VRels.vals (G:=G0 W) (l.map fun (x : Nat)=>Value.int kd (x : Int))
    rwa [List.map_map] at this
  · intro j u hu
    rw [List.getElem?_map] at hu
    cases hj : l[j]? with
    | none=>rw [hj] at hu; cases hu
    | some x =>
      rw [hj] at hu
      simp only [Option.map_some,Option.some.injEq] at hu
      have:=h j x hj
      show W.cell? ⟨g,0 + j,none⟩ = some u
      rw [Nat.zero_add,hc j,← hu]
      simpa using this
theorem of_laid {W : World} (h : laidMetH Tryz.prog laidD W) : ∀ g,∃ vs,VRels (G0 W) (Γd g) vs∧RoAt (G0 W) g 0 vs:=by
  rw [MakeChecks.laidMetH_plain _ _ _ (by kernel_rfl)] at h
  obtain ⟨ps,⟨g0,t0,cs0,f0,p0,q0,hg0,ht0,hv0,hd0,⟨g1,t1,cs1,f1,p1,q1,hg1,ht1,hv1,hd1,⟨g2,t2,cs2,f2,p2,q2,hg2,ht2,hv2,hd2,⟨g3,t3,cs3,f3,p3,q3,hg3,ht3,hv3,hd3,_,_⟩,_⟩,_⟩,_⟩,_,_⟩:=h
  obtain rfl:=Option.some.inj (gB32.symm.trans hg0)
  obtain rfl:=Option.some.inj (gB64.symm.trans hg1)
  obtain rfl:=Option.some.inj (gRounds.symm.trans hg2)
  obtain rfl:=Option.some.inj (gStart.symm.trans hg3)
  obtain rfl:=Option.some.inj (tB32.symm.trans ht0)
  obtain rfl:=Option.some.inj (tB64.symm.trans ht1)
  obtain rfl:=Option.some.inj (tRounds.symm.trans ht2)
  obtain rfl:=Option.some.inj (tStart.symm.trans ht3)
  have h2:=words_at (World.var?_cell hg0 hv0) (ints_of_trod (l:=dB32) Tryz.underlying283 Tryz.underlying5 T.c5 hd0)
  have h3:=words_at (World.var?_cell hg1 hv1) (ints_of_trod (l:=dB64) Tryz.underlying284 Tryz.underlying5 T.c5 hd1)
  have h1:=words_at (World.var?_cell hg2 hv2) (ints_of_trod (l:=Sha.K) Tryz.underlying265 Tryz.underlying213 T.c213 hd2)
  have h0:=words_at (World.var?_cell hg3 hv3) (ints_of_trod (l:=Sha.H0.list) Tryz.underlying214 Tryz.underlying213 T.c213 hd3)
  intro g
  by_cases e0 : g = 0
  · subst e0; exact h0
  · by_cases e1 : g = 1
    · subst e1; exact h1
    · by_cases e2 : g = 2
      · subst e2; exact h2
      · by_cases e3 : g = 3
        · subst e3; exact h3
        · refine ⟨[],?_,fun j u h=>by simp at h⟩
          simp [Γd,e0,e1,e2,e3,VRels]
theorem door_met (os : Os) (args : Array Value) : laidMetH Tryz.prog laidD ((World.doorLaid Tryz.prog 400 os).forCall (fun _ _=>0) ⟨#[],args,[]⟩).memory:=by
  rw [MakeChecks.laidMetH_plain _ _ _ (by kernel_rfl)]
  exact laidMet_of_run' 8 (by kernel_rfl) (by kernel_rfl)
end Go.Proofs.YtfjlmkifiihgkaaGreatDoor
namespace Go.Proofs.YtfjlmkifiihgkaaGreatDoor
set_option maxRecDepth 100000
def signs : List Char:=[Char.ofNat 104,Char.ofNat 97,Char.ofNat 114,Char.ofNat 110,Char.ofNat 101,Char.ofNat 115,Char.ofNat 115,Char.ofNat 32,Char.ofNat 101,Char.ofNat 52,Char.ofNat 98,Char.ofNat 56,Char.ofNat 52,Char.ofNat 98,Char.ofNat 50,Char.ofNat 56,Char.ofNat 55,Char.ofNat 57,Char.ofNat 102,Char.ofNat 55,Char.ofNat 99,Char.ofNat 97,Char.ofNat 97,Char.ofNat 100,Char.ofNat 51,Char.ofNat 52,Char.ofNat 101,Char.ofNat 49,Char.ofNat 53,Char.ofNat 55,Char.ofNat 53,Char.ofNat 51,Char.ofNat 102,Char.ofNat 100,Char.ofNat 48,Char.ofNat 48,Char.ofNat 54,Char.ofNat 98,Char.ofNat 98,Char.ofNat 51,Char.ofNat 49,Char.ofNat 49,Char.ofNat 52,Char.ofNat 52,Char.ofNat 98,Char.ofNat 52,Char.ofNat 52,Char.ofNat 53,Char.ofNat 99,Char.ofNat 98,Char.ofNat 101,Char.ofNat 52,Char.ofNat 55,Char.ofNat 101,Char.ofNat 98,Char.ofNat 100,Char.ofNat 100,Char.ofNat 99,Char.ofNat 100,Char.ofNat 50,Char.ofNat 56,Char.ofNat 102,Char.ofNat 48,Char.ofNat 53,Char.ofNat 53,Char.ofNat 57,Char.ofNat 55,Char.ofNat 101,Char.ofNat 100,Char.ofNat 49,Char.ofNat 48,Char.ofNat 98,Char.ofNat 32,Char.ofNat 99,Char.ofNat 117,Char.ofNat 116,Char.ofNat 32,Char.ofNat 97,Char.ofNat 116,Char.ofNat 32,Char.ofNat 101,Char.ofNat 110,Char.ofNat 103,Char.ofNat 114,Char.ofNat 111,Char.ofNat 115,Char.ofNat 115,Char.ofNat 101,Char.ofNat 114,Char.ofNat 47,Char.ofNat 101,Char.ofNat 110,Char.ofNat 103,Char.ofNat 114,Char.ofNat 111,Char.ofNat 115,Char.ofNat 115,Char.ofNat 101,Char.ofNat 114,Char.ofNat 108,Char.ofNat 97,Char.ofNat 119,Char.ofNat 50,Char.ofNat 48,Char.ofNat 46,Char.ofNat 82,Char.ofNat 97,Char.ofNat 116,Char.ofNat 99,Char.ofNat 104,Char.ofNat 101,Char.ofNat 116,Char.ofNat 65,Char.ofNat 99,Char.ofNat 116,Char.ofNat 115,Char.ofNat 32,Char.ofNat 101,Char.ofNat 110,Char.ofNat 103,Char.ofNat 114,Char.ofNat 111,Char.ofNat 115,Char.ofNat 115,Char.ofNat 101,Char.ofNat 114,Char.ofNat 47,Char.ofNat 101,Char.ofNat 110,Char.ofNat 103,Char.ofNat 114,Char.ofNat 111,Char.ofNat 115,Char.ofNat 115,Char.ofNat 101,Char.ofNat 114,Char.ofNat 108,Char.ofNat 97,Char.ofNat 119,Char.ofNat 50,Char.ofNat 48,Char.ofNat 46,Char.ofNat 82,Char.ofNat 97,Char.ofNat 116,Char.ofNat 99,Char.ofNat 104,Char.ofNat 101,Char.ofNat 116,Char.ofNat 82,Char.ofNat 111,Char.ofNat 119,Char.ofNat 115,Char.ofNat 32,Char.ofNat 101,Char.ofNat 110,Char.ofNat 103,Char.ofNat 114,Char.ofNat 111,Char.ofNat 115,Char.ofNat 115,Char.ofNat 101,Char.ofNat 114,Char.ofNat 47,Char.ofNat 101,Char.ofNat 110,Char.ofNat 103,Char.ofNat 114,Char.ofNat 111,Char.ofNat 115,Char.ofNat 115,Char.ofNat 101,Char.ofNat 114,Char.ofNat 108,Char.ofNat 97,Char.ofNat 119,Char.ofNat 50,Char.ofNat 52,Char.ofNat 46,Char.ofNat 80,Char.ofNat 117,Char.ofNat 98,Char.ofNat 108,Char.ofNat 105,Char.ofNat 99,Char.ofNat 78,Char.ofNat 101,Char.ofNat 120,Char.ofNat 116,Char.ofNat 32,Char.ofNat 101,Char.ofNat 110,Char.ofNat 103,Char.ofNat 114,Char.ofNat 111,Char.ofNat 115,Char.ofNat 115,Char.ofNat 101,Char.ofNat 114,Char.ofNat 47,Char.ofNat 101,Char.ofNat 110,Char.ofNat 103,Char.ofNat 114,Char.ofNat 111,Char.ofNat 115,Char.ofNat 115,Char.ofNat 101,Char.ofNat 114,Char.ofNat 108,Char.ofNat 97,Char.ofNat 119,Char.ofNat 50,Char.ofNat 52,Char.ofNat 46,Char.ofNat 80,Char.ofNat 117,Char.ofNat 98,Char.ofNat 108,Char.ofNat 105,Char.ofNat 99,Char.ofNat 70,Char.ofNat 111,Char.ofNat 108,Char.ofNat 100,Char.ofNat 115,Char.ofNat 32,Char.ofNat 101,Char.ofNat 110,Char.ofNat 103,Char.ofNat 114,Char.ofNat 111,Char.ofNat 115,Char.ofNat 115,Char.ofNat 101,Char.ofNat 114,Char.ofNat 47,Char.ofNat 101,Char.ofNat 110,Char.ofNat 103,Char.ofNat 114,Char.ofNat 111,Char.ofNat 115,Char.ofNat 115,Char.ofNat 101,Char.ofNat 114,Char.ofNat 108,Char.ofNat 97,Char.ofNat 119,Char.ofNat 50,Char.ofNat 52,Char.ofNat 46,Char.ofNat 80,Char.ofNat 117,Char.ofNat 98,Char.ofNat 108,Char.ofNat 105,Char.ofNat 99,Char.ofNat 82,Char.ofNat 101,Char.ofNat 97,Char.ofNat 100,Char.ofNat 115,Char.ofNat 32,Char.ofNat 101,Char.ofNat 110,Char.ofNat 103,Char.ofNat 114,Char.ofNat 111,Char.ofNat 115,Char.ofNat 115,Char.ofNat 101,Char.ofNat 114,Char.ofNat 47,Char.ofNat 101,Char.ofNat 110,Char.ofNat 103,Char.ofNat 114,Char.ofNat 111,Char.ofNat 115,Char.ofNat 115,Char.ofNat 101,Char.ofNat 114,Char.ofNat 108,Char.ofNat 97,Char.ofNat 119,Char.ofNat 50,Char.ofNat 52,Char.ofNat 46,Char.ofNat 80,Char.ofNat 117,Char.ofNat 98,Char.ofNat 108,Char.ofNat 105,Char.ofNat 99,Char.ofNat 83,Char.ofNat 116,Char.ofNat 97,Char.ofNat 116,Char.ofNat 101,Char.ofNat 115,Char.ofNat 32,Char.ofNat 101,Char.ofNat 110,Char.ofNat 103,Char.ofNat 114,Char.ofNat 111,Char.ofNat 115,Char.ofNat 115,Char.ofNat 101,Char.ofNat 114,Char.ofNat 47,Char.ofNat 101,Char.ofNat 110,Char.ofNat 103,Char.ofNat 114,Char.ofNat 111,Char.ofNat 115,Char.ofNat 115,Char.ofNat 101,Char.ofNat 114,Char.ofNat 108,Char.ofNat 97,Char.ofNat 119,Char.ofNat 51,Char.ofNat 48,Char.ofNat 46,Char.ofNat 65,Char.ofNat 117,Char.ofNat 100,Char.ofNat 105,Char.ofNat 116,Char.ofNat 82,Char.ofNat 101,Char.ofNat 112,Char.ofNat 108,Char.ofNat 97,Char.ofNat 121,Char.ofNat 115]
def headWords : List (List Char):=[[Char.ofNat 104,Char.ofNat 97,Char.ofNat 114,Char.ofNat 110,Char.ofNat 101,Char.ofNat 115,Char.ofNat 115],
  [Char.ofNat 101,Char.ofNat 52,Char.ofNat 98,Char.ofNat 56,Char.ofNat 52,Char.ofNat 98,Char.ofNat 50,Char.ofNat 56,Char.ofNat 55,Char.ofNat 57,Char.ofNat 102,Char.ofNat 55,Char.ofNat 99,Char.ofNat 97,Char.ofNat 97,Char.ofNat 100,Char.ofNat 51,Char.ofNat 52,Char.ofNat 101,Char.ofNat 49,Char.ofNat 53,Char.ofNat 55,Char.ofNat 53,Char.ofNat 51,Char.ofNat 102,Char.ofNat 100,Char.ofNat 48,Char.ofNat 48,Char.ofNat 54,Char.ofNat 98,Char.ofNat 98,Char.ofNat 51,Char.ofNat 49,Char.ofNat 49,Char.ofNat 52,Char.ofNat 52,Char.ofNat 98,Char.ofNat 52,Char.ofNat 52,Char.ofNat 53,Char.ofNat 99,Char.ofNat 98,Char.ofNat 101,Char.ofNat 52,Char.ofNat 55,Char.ofNat 101,Char.ofNat 98,Char.ofNat 100,Char.ofNat 100,Char.ofNat 99,Char.ofNat 100,Char.ofNat 50,Char.ofNat 56,Char.ofNat 102,Char.ofNat 48,Char.ofNat 53,Char.ofNat 53,Char.ofNat 57,Char.ofNat 55,Char.ofNat 101,Char.ofNat 100,Char.ofNat 49,Char.ofNat 48,Char.ofNat 98],
  [Char.ofNat 99,Char.ofNat 117,Char.ofNat 116],
  [Char.ofNat 97,Char.ofNat 116],
  [Char.ofNat 101,Char.ofNat 110,Char.ofNat 103,Char.ofNat 114,Char.ofNat 111,Char.ofNat 115,Char.ofNat 115,Char.ofNat 101,Char.ofNat 114,Char.ofNat 47,Char.ofNat 101,Char.ofNat 110,Char.ofNat 103,Char.ofNat 114,Char.ofNat 111,Char.ofNat 115,Char.ofNat 115,Char.ofNat 101,Char.ofNat 114,Char.ofNat 108,Char.ofNat 97,Char.ofNat 119,Char.ofNat 50,Char.ofNat 48,Char.ofNat 46,Char.ofNat 82,Char.ofNat 97,Char.ofNat 116,Char.ofNat 99,Char.ofNat 104,Char.ofNat 101,Char.ofNat 116,Char.ofNat 65,Char.ofNat 99,Char.ofNat 116,Char.ofNat 115],
  [Char.ofNat 101,Char.ofNat 110,Char.ofNat 103,Char.ofNat 114,Char.ofNat 111,Char.ofNat 115,Char.ofNat 115,Char.ofNat 101,Char.ofNat 114,Char.ofNat 47,Char.ofNat 101,Char.ofNat 110,Char.ofNat 103,Char.ofNat 114,Char.ofNat 111,Char.ofNat 115,Char.ofNat 115,Char.ofNat 101,Char.ofNat 114,Char.ofNat 108,Char.ofNat 97,Char.ofNat 119,Char.ofNat 50,Char.ofNat 48,Char.ofNat 46,Char.ofNat 82,Char.ofNat 97,Char.ofNat 116,Char.ofNat 99,Char.ofNat 104,Char.ofNat 101,Char.ofNat 116,Char.ofNat 82,Char.ofNat 111,Char.ofNat 119,Char.ofNat 115],
  [Char.ofNat 101,Char.ofNat 110,Char.ofNat 103,Char.ofNat 114,Char.ofNat 111,Char.ofNat 115,Char.ofNat 115,Char.ofNat 101,Char.ofNat 114,Char.ofNat 47,Char.ofNat 101,Char.ofNat 110,Char.ofNat 103,Char.ofNat 114,Char.ofNat 111,Char.ofNat 115,Char.ofNat 115,Char.ofNat 101,Char.ofNat 114,Char.ofNat 108,Char.ofNat 97,Char.ofNat 119,Char.ofNat 50,Char.ofNat 52,Char.ofNat 46,Char.ofNat 80,Char.ofNat 117,Char.ofNat 98,Char.ofNat 108,Char.ofNat 105,Char.ofNat 99,Char.ofNat 78,Char.ofNat 101,Char.ofNat 120,Char.ofNat 116],
  [Char.ofNat 101,Char.ofNat 110,Char.ofNat 103,Char.ofNat 114,Char.ofNat 111,Char.ofNat 115,Char.ofNat 115,Char.ofNat 101,Char.ofNat 114,Char.ofNat 47,Char.ofNat 101,Char.ofNat 110,Char.ofNat 103,Char.ofNat 114,Char.ofNat 111,Char.ofNat 115,Char.ofNat 115,Char.ofNat 101,Char.ofNat 114,Char.ofNat 108,Char.ofNat 97,Char.ofNat 119,Char.ofNat 50,Char.ofNat 52,Char.ofNat 46,Char.ofNat 80,Char.ofNat 117,Char.ofNat 98,Char.ofNat 108,Char.ofNat 105,Char.ofNat 99,Char.ofNat 70,Char.ofNat 111,Char.ofNat 108,Char.ofNat 100,Char.ofNat 115],
  [Char.ofNat 101,Char.ofNat 110,Char.ofNat 103,Char.ofNat 114,Char.ofNat 111,Char.ofNat 115,Char.ofNat 115,Char.ofNat 101,Char.ofNat 114,Char.ofNat 47,Char.ofNat 101,Char.ofNat 110,Char.ofNat 103,Char.ofNat 114,Char.ofNat 111,Char.ofNat 115,Char.ofNat 115,Char.ofNat 101,Char.ofNat 114,Char.ofNat 108,Char.ofNat 97,Char.ofNat 119,Char.ofNat 50,Char.ofNat 52,Char.ofNat 46,Char.ofNat 80,Char.ofNat 117,Char.ofNat 98,Char.ofNat 108,Char.ofNat 105,Char.ofNat 99,Char.ofNat 82,Char.ofNat 101,Char.ofNat 97,Char.ofNat 100,Char.ofNat 115],
  [Char.ofNat 101,Char.ofNat 110,Char.ofNat 103,Char.ofNat 114,Char.ofNat 111,Char.ofNat 115,Char.ofNat 115,Char.ofNat 101,Char.ofNat 114,Char.ofNat 47,Char.ofNat 101,Char.ofNat 110,Char.ofNat 103,Char.ofNat 114,Char.ofNat 111,Char.ofNat 115,Char.ofNat 115,Char.ofNat 101,Char.ofNat 114,Char.ofNat 108,Char.ofNat 97,Char.ofNat 119,Char.ofNat 50,Char.ofNat 52,Char.ofNat 46,Char.ofNat 80,Char.ofNat 117,Char.ofNat 98,Char.ofNat 108,Char.ofNat 105,Char.ofNat 99,Char.ofNat 83,Char.ofNat 116,Char.ofNat 97,Char.ofNat 116,Char.ofNat 101,Char.ofNat 115],
  [Char.ofNat 101,Char.ofNat 110,Char.ofNat 103,Char.ofNat 114,Char.ofNat 111,Char.ofNat 115,Char.ofNat 115,Char.ofNat 101,Char.ofNat 114,Char.ofNat 47,Char.ofNat 101,Char.ofNat 110,Char.ofNat 103,Char.ofNat 114,Char.ofNat 111,Char.ofNat 115,Char.ofNat 115,Char.ofNat 101,Char.ofNat 114,Char.ofNat 108,Char.ofNat 97,Char.ofNat 119,Char.ofNat 51,Char.ofNat 48,Char.ofNat 46,Char.ofNat 65,Char.ofNat 117,Char.ofNat 100,Char.ofNat 105,Char.ofNat 116,Char.ofNat 82,Char.ofNat 101,Char.ofNat 112,Char.ofNat 108,Char.ofNat 97,Char.ofNat 121,Char.ofNat 115]]
theorem initS : Tryz.prog.initOrder = String.ofList signs:=by kernel_rfl
theorem words : wordsSigns Tryz.prog.initOrder.toList = headWords:=by
  rw [initS,String.toList_ofList]
  kernel_rfl
theorem both {a b : Bool} (h : a = true) (k : b = true) : (a && b) = true:=by rw [h,k]; rfl
theorem same_of {a b : Bool} (h : b = a) : (a == b) = true:=by rw [h]; cases a <;> rfl
theorem make_of {a b : Option Make} (h : a = b) : (a == b) = true:=by rw [h]; exact beq_self_eq_true _
theorem strip_cut (r : List (List Char)) : stripLifts liftWords ("cut".toList :: r) = ([], "cut".toList :: r):=by kernel_rfl
theorem lifts_cut {P : Program} {r} (h : behindMainWord (wordsSigns P.initOrder.toList) = "cut".toList :: r) : P.headLifts = []:=by
  unfold Program.headLifts
  rw [h,strip_cut]
  kernel_rfl
theorem make_cut {P : Program} {r} (h : behindMainWord (wordsSigns P.initOrder.toList) = "cut".toList :: r) : P.make = some .cut:=by
  unfold Program.make
  rw [h,lifts_cut h]
  kernel_rfl
theorem final_cut {P : Program} {r} (h : behindMainWord (wordsSigns P.initOrder.toList) = "cut".toList :: r) : P.liftsFinal = false:=by
  unfold Program.liftsFinal
  rw [h,lifts_cut h]
  kernel_rfl
theorem main_har {P : Program} {s r} (h : wordsSigns P.initOrder.toList = "harness".toList :: s :: r) (hs : isSumSigns s = true) : P.mainIs = some (true,s):=by
  unfold Program.mainIs
  rw [h]
  dsimp only
  rw [hs]
  kernel_rfl
theorem may_cut {P : Program} {r} (h : behindMainWord (wordsSigns P.initOrder.toList) = "cut".toList :: r) (hl : P.laysLater = false) (hr : P.bearsReflect = false) (hd : P.doorFits [] = true) : P.mayEnter = true:=by
  unfold Program.mayEnter
  rw [h,hl,hr]
  dsimp only
  rw [strip_cut]
  dsimp only
  rw [hd]
  kernel_rfl
theorem behind : behindMainWord (wordsSigns Tryz.prog.initOrder.toList) = "cut".toList :: headWords.drop 3:=(congrArg behindMainWord words).trans (by kernel_rfl)
theorem headMake : Tryz.prog.make = some .cut:=make_cut behind
theorem headMain : Tryz.prog.mainIs = some (true, "e4b84b2879f7caad34e15753fd006bb31144b445cbe47ebddcd28f05597ed10b".toList):=main_har (r:=headWords.drop 2) (words.trans (by kernel_rfl)) (by kernel_rfl)
theorem headMay : Tryz.prog.mayEnter = true:=may_cut behind (by kernel_rfl) (by kernel_rfl) (by kernel_rfl)
theorem headFin : Tryz.prog.liftsFinal = false:=final_cut behind
end Go.Proofs.YtfjlmkifiihgkaaGreatDoor
