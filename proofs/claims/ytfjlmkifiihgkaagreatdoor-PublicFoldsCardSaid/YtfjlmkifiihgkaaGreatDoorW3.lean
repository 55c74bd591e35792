/- Contracts of the program's functions, each walked once; the conditions stand in each theorem. -/
import Derived.Test.YtfjlmkifiihgkaaGreatDoorAMp6
import Derived.Test.YtfjlmkifiihgkaaGreatDoorW1
import Derived.Test.YtfjlmkifiihgkaaGreatDoorW2
import Derived.Test.YtfjlmkifiihgkaaGreatDoorAMp7
import Derived.Shelf.Slices.SearchI
import Derived.Shelf.Slices.Empties
import Derived.Test.YtfjlmkifiihgkaaGreatDoorAMp5
set_option linter.unusedSimpArgs false
set_option linter.unusedVariables false
open Nat renaming reduceLT → Na, reduceLeDiff → Nb, reduceEqDiff → Nc, reduceAdd → Nk, reduceMul → Nf, reducePow → Ng, reduceSub → Nh, reduceBEq → Nz
open Int renaming reduceLT → Za, reduceLE → Zb, reduceToNat → Zc
open And renaming intro → Ai
open Go.AM renaming ashift → Qa, aconv → Qb, aindexAddr → Qc, aindex → Qd, aslice → Qe, abuiltin → Qf, awp_reg_seq → wS, awp_reg_end → wE, awp_seq_k → wK, awp_cond_k → wC
open Go.AM.AV renaming cells → Qg, one → Qh
set_option maxRecDepth 100000
set_option maxHeartbeats 8000000
set_option autoImplicit false
namespace Go.Proofs.YtfjlmkifiihgkaaGreatDoor
open Go Go.AM Go.Proofs
variable {Γ : Nat→List AV}
theorem named_none {t : List NodeV} {name : List UInt8} {a : Nat} : decide (0≤namedI t name (a + 1)) = false↔∀ j,j < hlf t→a < j→¬ (memI t (j : Int)∧(nd t (2 * j)).name = name):=by
 have h:=firstN_ge (fun (j : Nat)=>decide (memI t (j : Int)∧(nd t (2 * j)).name = name)) (hlf t - (a + 1)) (a + 1)
 constructor
 ·intro h1 j h2 h3 h4
  have : decide (0≤namedI t name (a + 1)) = true:=h.2 ⟨j,by omega,by omega,decide_eq_true h4⟩
  rw [h1] at this
  cases this
 ·intro h1
  cases hd : decide (0≤namedI t name (a + 1)) with
  | false=>rfl
  | true =>
   obtain ⟨j,h2,h3,h4⟩:=h.1 hd
   exact absurd (of_decide_eq_true h4) (h1 j (by omega) (by omega))
theorem right20_calls (hG : Γ 3 = dB64.map u8C) (t : List NodeV) (ht : TreeW t) (s : AS) : ACalls Tryz.prog Γ 24 [treeV t] s (fun r s'=>r = .v (.bool (decide (rightT t)))∧s' = s):=by
 refine acalls_body Tryz.func24 rfl Tryz.ntmps24 Tryz.results24 (by simp) ?_
 have htl:=ht.1
 have hlc:=fun s=>leaves_calls (Γ:=Γ) t htl s
 have hmc:=fun i s=>member_calls (Γ:=Γ) t htl i s
 have hfc:=fun i (h : i < t.length) s=>fits20_calls (Γ:=Γ) hG t ht i h s
 have hnc:=fun name a (h : a≤2 ^ 60) s=>named20_calls (Γ:=Γ) t htl name a h s
 have hcc:=fun a k h s=>members_calls (Γ:=Γ) t htl a k h s
 have hat:=fun i (h : i < t.length)=>node_at (t:=t) h
 have hlv:=lvs_le t
 have h0len : lvs t≠0→t.length = 2 * lvs t - 1:=fun h=>(lvs_zero_or.resolve_left h).2
 have hno0 : lvs t = 0→decide (rightT t) = false:=fun h=>decide_eq_false fun k=>k.1 h
 have hnoi : ∀ i,i < t.length→¬ goodAt t i→decide (rightT t) = false:=fun i h1 h2=>decide_eq_false fun k=>h2 (k.2.1 i h1)
 have hfin : lvs t≠0→(∀ i,i < t.length→goodAt t i)→decide (rightT t) = (((lvs t : Int) == 1) || decide ((0 : Int) < (cntN (memI t) (lvs t / 2) (lvs t - lvs t / 2) : Int))):=by
  intro h1 h2
  rw [Bool.eq_iff_iff,decide_eq_true_iff,Bool.or_eq_true,beq_iff_eq,decide_eq_true_iff]
  constructor
  ·rintro ⟨_,_,h3⟩
   exact h3.imp (fun q=>by omega) (fun q=>by omega)
  ·intro h3
   exact ⟨h1,h2,h3.imp (fun q=>by omega) (fun q=>by omega)⟩
 unfold treeV at *
 generalize rowC NodeV.cells t = X at *
 generalize decide (rightT t) = RES at *
 refine jA ?_
 refine jK (hlc _) ?_;rintro s1 rfl
 refine wK fun K hK=>?_
 refine jA ?_
 refine awp_block ?_
 refine awp_loop (fun E s2=>∃ i : Nat,i≤t.length∧(0 < i→lvs t≠0)∧(∀ j,j < i→goodAt t j)∧E 9 = .v (.int .i64 i)∧E 8 = .v (.int .i64 t.length)∧E 3 = .v (.int .i64 (lvs t))∧E 0 = .sl 5 t.length X .any∧s2 = s1)
  (fun E _=>match E 9 with | .v (.int _ i)=>t.length - i.toNat | _=>0) ?_ ?_
 ·exact ⟨0,Nat.zero_le _,fun h=>absurd h (Nat.lt_irrefl _),fun j h=>absurd h (Nat.not_lt_zero _),by simp only [upd,Nc,↓reduceIte]; rfl,by simp only [upd,Nc,↓reduceIte],by simp only [upd,Nc,↓reduceIte],by simp only [upd,initE,List.getD_cons_zero,List.getD_cons_succ,Nc,↓reduceIte],rfl⟩
 ·rintro E1 s2 ⟨i,hi,hn0,hall,g9,g8,g3,g0,rfl⟩ -
  by_cases hi' : i < t.length
  ·refine jB (Ai @g9 (Ai @g8 (Ai @eye_lt_nat (decide_eq_true hi')))) ?_
   refine wK fun K2 hK2=>?_
   refine jE ?_
   refine awp_skip ?_
   refine hK2 _ _ ?_;clear hK2 K2
   refine wK fun K3 hK3=>?_
   refine awp_block ?_
   refine jB @g9 ?_
   by_cases hz : lvs t = 0
   ·refine jB (Ai @g3 (nat0 hz)) ?_
    refine jE ?_
    refine jA ?_
    refine jI ?_
    rw [hno0 hz]
    exact ⟨_,_,AV.weak.refl _,AS.le.refl _,rfl,rfl⟩
   ·have hgood : goodAt t i↔fitsT t i∧(i % 2 = 0→memI t ((i / 2 : Nat) : Int)→decide (0≤namedI t (nd t i).name (i / 2 + 1)) = false):=by
     unfold goodAt
     rw [named_none]
    have hlen:=h0len hz
    have hat':=hat i hi'
    have hni:=fun s=>hnc (nd t i).name (i / 2 + 1) (by omega) s
    generalize hNI : namedI t (nd t i).name (i / 2 + 1) = NI at *
    generalize nd t i = N at *
    obtain ⟨nk,nm,ny,npa,nu⟩:=N
    unfold NodeV.cells at hat'
    simp only at hni
    have hge : (0 : Int)≤(i : Int):=by omega
    have hr2 : irem (i : Int) 2 = ((i % 2 : Nat) : Int):=irem_u i 2
    have hq2 : iquo .i64 (i : Int) 2 = ((i / 2 : Nat) : Int):=iquo_nat i (by omega)
    have hq3 : iadd .i64 ((i / 2 : Nat) : Int) 1 = ((i / 2 + 1 : Nat) : Int):=eye_succM _ (by omega)
    have hend : goodAt t i→∀ (E : Env),E 9 = .v (.int .i64 i)→E 8 = .v (.int .i64 t.length)→E 3 = .v (.int .i64 (lvs t))→E 0 = .sl 5 t.length X .any→K3 E s2:=by
     intro hg E f9 f8 f3 f0
     refine hK3 _ _ ?_;clear hK3 K3
     refine jD (Ai @f9 (eye_succM i (by omega))) ?_
     refine ⟨⟨i + 1,by omega,fun _=>hz,?_,by simp only [upd,Nc,↓reduceIte],by simp only [upd,f8,Nc,↓reduceIte],by simp only [upd,f3,Nc,↓reduceIte],by simp only [upd,f0,Nc,↓reduceIte],rfl⟩,?_⟩
     ·intro j hj
      by_cases e : j = i
      ·rw [e]; exact hg
      ·exact hall j (by omega)
     ·simp only [g9,upd,↓reduceIte]
      omega
    clear hK3
    refine jS (Ai @g3 (Ai (nat0F hz) @g0)) fun K hK=>?_
    refine acallk (hfc i hi' _) ?_
    rintro r s3 ⟨rfl,rfl⟩
    by_cases hf : fitsT t i
    ·rw [decide_eq_true hf]
     by_cases hp : i % 2 = 0
     ·have t2 : (irem (i : Int) 2 == 0) = true:=by rw [hr2]; exact yesI (by omega)
      simp only [↓DM,pval,DX,Nz,↓DN,Qa,Qb,Qc,Qd,Qe,Qf,Qg,Qh,reduceCtorEq,↓reduceIte,Na,Nb,Nc,Nk,Nf,Ng,Nh,Za,Zb,Zc,TT,two0,t2,g0,hq2]
      refine acallk (hmc _ _) ?_
      rintro r s4 ⟨rfl,rfl⟩
      by_cases hm : memI t ((i / 2 : Nat) : Int)
      ·rw [decide_eq_true hm]
       simp only [↓DM,pval,DX,Nz,↓DN,Qa,Qb,Qc,Qd,Qe,Qf,Qg,Qh,reduceCtorEq,↓reduceIte,Na,Nb,Nc,Nk,Nf,Ng,Nh,Za,Zb,Zc,TT,two0,g0,eye_lt_nat,hi',hge,hat',hq2,hq3]
       refine acallk (hni _) ?_
       rintro r s5 ⟨rfl,rfl⟩
       by_cases hn : 0≤NI
       ·have hbad : ¬ goodAt t i:=fun k=>by
         have:=(hgood.1 k).2 hp hm
         exact absurd hn (of_decide_eq_false this)
        refine jV (decide_eq_true hn) hK ?_;clear hK K
        refine jE ?_
        refine jA ?_
        refine jI ?_
        rw [hnoi i hi' hbad]
        exact ⟨_,_,AV.weak.refl _,AS.le.refl _,rfl,rfl⟩
       ·have hg : goodAt t i:=hgood.2 ⟨hf,fun _ _=>decide_eq_false hn⟩
        refine jV (decide_eq_false hn) hK ?_;clear hK K
        refine jF ?_
        refine awp_skip ?_
        simp only [blockQ,thenQ,if_true,if_false]
        exact hend hg _ (by simp only [upd,g9,Nc,↓reduceIte]) (by simp only [upd,g8,Nc,↓reduceIte]) (by simp only [upd,g3,Nc,↓reduceIte]) (by simp only [upd,g0,Nc,↓reduceIte])
      ·have hg : goodAt t i:=hgood.2 ⟨hf,fun _ k=>absurd k hm⟩
       rw [decide_eq_false hm]
       refine jR hK ?_;clear hK K
       refine jF ?_
       refine awp_skip ?_
       simp only [blockQ,thenQ,if_true,if_false]
       exact hend hg _ (by simp only [upd,g9,Nc,↓reduceIte]) (by simp only [upd,g8,Nc,↓reduceIte]) (by simp only [upd,g3,Nc,↓reduceIte]) (by simp only [upd,g0,Nc,↓reduceIte])
     ·have t2 : (irem (i : Int) 2 == 0) = false:=by rw [hr2]; exact notI (by omega)
      have hg : goodAt t i:=hgood.2 ⟨hf,fun k=>absurd k hp⟩
      simp only [↓DM,pval,DX,Nz,↓DN,Qa,Qb,Qc,Qd,Qe,Qf,Qg,Qh,reduceCtorEq,↓reduceIte,Na,Nb,Nc,Nk,Nf,Ng,Nh,Za,Zb,Zc,TT,two0,t2]
      refine hK _ _ ?_;clear hK K
      refine jF ?_
      refine awp_skip ?_
      simp only [blockQ,thenQ,if_true,if_false]
      exact hend hg _ (by simp only [upd,g9,Nc,↓reduceIte]) (by simp only [upd,g8,Nc,↓reduceIte]) (by simp only [upd,g3,Nc,↓reduceIte]) (by simp only [upd,g0,Nc,↓reduceIte])
    ·have hbad : ¬ goodAt t i:=fun k=>hf k.1
     rw [decide_eq_false hf]
     refine jR hK ?_;clear hK K
     refine jE ?_
     refine jA ?_
     refine jI ?_
     rw [hnoi i hi' hbad]
     exact ⟨_,_,AV.weak.refl _,AS.le.refl _,rfl,rfl⟩
  ·refine jB (Ai @g9 (Ai @g8 (Ai @eye_lt_nat (decide_eq_false hi')))) ?_
   refine wK fun K2 hK2=>?_
   refine jF ?_
   refine awp_exit ?_
   simp only [thenQ,blockQ,if_true]
   refine hK _ _ ?_;clear hK hK2 K2 K
   have hall' : ∀ j,j < t.length→goodAt t j:=fun j h=>hall j (by omega)
   by_cases hz : lvs t = 0
   ·have hp : decide ((0 : Int) < ((lvs t : Nat) : Int)) = false:=decide_eq_false (by omega)
    refine jB (Ai @g3 (Ai (notI (show ¬ ((lvs t : Nat) : Int) = 1 by omega)) @hp)) ?_
    refine jI ?_
    rw [hno0 hz]
    exact ⟨_,_,AV.weak.refl _,AS.le.refl _,rfl,rfl⟩
   ·have hp : decide ((0 : Int) < ((lvs t : Nat) : Int)) = true:=decide_eq_true (by omega)
    have hres:=hfin hz hall'
    by_cases h1 : lvs t = 1
    ·have e1:=yesI (show ((lvs t : Nat) : Int) = 1 by omega)
     rw [e1] at hres
     refine jB (Ai @g3 @e1) ?_
     refine jI ?_
     rw [hres]
     exact ⟨_,_,AV.weak.refl _,AS.le.refl _,rfl,rfl⟩
    ·have e1:=notI (show ¬ ((lvs t : Nat) : Int) = 1 by omega)
     rw [e1,Bool.false_or] at hres
     have e2 : iquo .i64 (lvs t : Int) 2 = ((lvs t / 2 : Nat) : Int):=iquo_nat _ (by omega)
     have e3 : isub .i64 (lvs t : Int) 1 = (((lvs t / 2 + (lvs t - lvs t / 2) : Nat)) : Int) - 1:=by rw [isub_i64 (by omega)]; omega
     have hcm:=fun s=>hcc (lvs t / 2) (lvs t - lvs t / 2) (by omega) s
     generalize (((lvs t / 2 + (lvs t - lvs t / 2) : Nat)) : Int) - 1 = LL at *
     refine jS (Ai @g3 (Ai @e1 (Ai @hp (Ai @two0 (Ai @e2 (Ai @e3 @g0)))))) fun K hK=>?_
     refine acallk (hcm _) ?_
     rintro r s3 ⟨rfl,rfl⟩
     refine jR hK ?_;clear hK K
     refine jI ?_
     rw [hres]
     exact ⟨_,_,AV.weak.refl _,AS.le.refl _,rfl,rfl⟩
end Go.Proofs.YtfjlmkifiihgkaaGreatDoor
namespace Go.AM
open Go
theorem lvs_of {t : List NodeV} {n : Nat} (h : Fit n) (hl : t.length = 2 * n - 1) : lvs t = n:=by
  have:=h.le
  unfold lvs
  rw [show (t.length + 1) / 2 = n by omega]
  exact if_pos ⟨h,hl⟩
theorem fit_pow {j : Nat} (h : j≤5) : Fit (2 ^ j):=(by decide : ∀ j≤5,Fit (2 ^ j)) j h
end Go.AM
namespace Go.AM
open Go
structure ListedV where
  leaf : Int
  name : List UInt8
  deriving DecidableEq
def ListedV.cells (x : ListedV) : List AV:=[.v (.int .i64 x.leaf),bytesV x.name .any]
theorem rightT.hlf {t : List NodeV} (h : rightT t) : hlf t = lvs t:=by
  have h1:=(lvs_zero_or.resolve_left h.1)
  have:=h1.1.le
  unfold Go.AM.hlf
  omega
theorem rightT.len {t : List NodeV} (h : rightT t) : t.length = 2 * lvs t - 1∧Fit (lvs t):=by
  have h1:=(lvs_zero_or.resolve_left h.1)
  exact ⟨h1.2,h1.1⟩
theorem rightT.nodes {t : List NodeV} (h : rightT t) {n : NodeV} (hn : n ∈ t) : n.right:=by
  obtain ⟨i,hi,rfl⟩:=List.getElem_of_mem hn
  have:=(h.2.1 i hi).1.1
  rwa [nd_get hi] at this
theorem rightT.nd {t : List NodeV} (h : rightT t) (i : Nat) : (nd t i).right:=by
  by_cases hi : i < t.length
  · exact (h.2.1 i hi).1.1
  · have : Go.AM.nd t i = NodeV.nought:=by simp [Go.AM.nd,List.getD,show t.length≤i by omega]
    rw [this]; exact nought_right
end Go.AM
namespace Go.AM
open Go
def nodesText (l : List NodeV) : List UInt8:=(l.map NodeV.text).flatten
def treeText (t : List NodeV) : List UInt8:=be 1 (lvs t) ++ nodesText t
end Go.AM
namespace Go.AM
open Go Go.RowKit Go.Shelf Go.Proofs
variable {P : Program} {Γ : Nat→List AV} {G : Gh} {s : AS} {w : World} {N : Nat}
def intW (i : Int) : Value:=.int .i64 i
theorem VRels.ints {G : Gh} (l : List Int) : VRels G (l.map intC) (l.map intW):=by
  induction l with
  | nil=>simp [VRels]
  | cons i l ih=>simp only [List.map_cons,VRels]; exact ⟨intW i,_,rfl,by simp [intC,intW,VRel],ih⟩
theorem VRels.ints_eq {G : Gh} : ∀ {l : List Int} {vs : List Value},VRels G (l.map intC) vs→vs = l.map intW
  | [],vs,h=>by simpa [VRels] using h
  | i :: l,vs,h=>by
    simp only [List.map_cons,VRels] at h
    obtain ⟨u,us,rfl,h1,h2⟩:=h
    rw [VRels.ints_eq h2]
    simp only [intC,VRel] at h1
    rw [h1]
    rfl
theorem one_ints (l : List Int) : ∀ v ∈ l.map intW,v.oneCell' = true:=by
  intro v hv
  obtain ⟨i,_,rfl⟩:=List.mem_map.1 hv
  rfl
theorem insert_cells (A B : List AV) (b0 x r0 : AV) (rest : List AV) : asetAll (asetAll (A ++ b0 :: B ++ r0 :: rest) (A.length + 1) (b0 :: B)) A.length [x] = A ++ x :: b0 :: B ++ rest:=by
  have h1:=asetAll_mid (b0 :: B) (A ++ [b0]) (B ++ r0 :: rest) (by simp)
  have e1 : A ++ b0 :: B ++ r0 :: rest = (A ++ [b0]) ++ (B ++ r0 :: rest):=by simp
  rw [List.length_append,List.length_singleton] at h1
  rw [e1,h1]
  have e2 : (B ++ r0 :: rest).drop (b0 :: B).length = rest:=by
    rw [List.length_cons,List.drop_append,List.drop_eq_nil_of_le (by omega),List.nil_append,Nat.add_sub_cancel_left]
    rfl
  rw [e2]
  have h2:=asetAll_mid [x] A (b0 :: (b0 :: B) ++ rest) (by simp)
  have e3 : A ++ [b0] ++ b0 :: B ++ rest = A ++ (b0 :: (b0 :: B) ++ rest):=by simp
  rw [e3,h2]
  simp
theorem insert_res {ρ : Ren} (L : Lays2.n21 P ρ) {x : AV} {u : Value} {l : List Int} {i : Nat} (at' : Int) {e : TypeId} {w0 : World} (hb : OBuf 1 s x l.length (l.map intC)) (hi : i≤l.length) (hn : l.length≤2 ^ 40)
    (hs : SRel Γ G s (w0.alloc (.cells #[intW at'] e))) (hxr : VRel G x u) (hold : ∀ o b,G.obj o = some b→b < w0.heap.size) :
    Calls P (ρ.f 21) #[u,.int .i64 i,.slice (some ⟨w0.heap.size,0,none⟩) 1 1] (w0.alloc (.cells #[intW at'] e)) (fun e w'=>∃ G' r v s',e = .returned v∧G.le G'∧SRel Γ G' s' w'∧VRel G' r v ∧
      ∃ o cap rest,r = .osl o 0 1 (l.length + 1) cap∧l.length + 1≤cap∧cap < 2 ^ 63∧rest.length = cap - (l.length + 1)∧(s.objs o = none∨∃ cap0,x = .osl o 0 1 l.length cap0)∧s' = s.set o ((l.take i ++ at' :: l.drop i).map intC ++ rest)):=by
  generalize hw : w0.alloc (.cells #[intW at'] e) = w at *
  have hvs : ∀ (j : Nat) (v : Value),([intW at'] : List Value)[j]? = some v→w.cell? ⟨w0.heap.size,0 + j,none⟩ = some v:=by
    intro j v hj
    rw [← hw,World.cell?_alloc_new,Nat.zero_add]
    simpa using hj
  have h1v : ∀ v ∈ ([intW at'] : List Value),v.oneCell' = true:=one_ints [at']
  have zl : ∀ k,(Builtin.zeroCells (Value.int .i64 0).cells k).toList = List.replicate k (intW 0):=by
    intro k
    simp [Builtin.zeroCells,Value.cells,intW,Nat.mod_one]
    rw [List.map_const',List.length_range]
  rcases hb with ⟨h0,hl0,hx⟩ | ⟨o,cap,rest,rfl,ho,hcl,hrl,hnc,h63⟩
  · obtain rfl : l = []:=List.eq_nil_of_length_eq_zero h0
    obtain rfl : i = 0:=by simpa using hi
    have core : ∀ base,Calls P (ρ.f 21) #[.slice base 0 0,.int .i64 ((0 : Nat) : Int),.slice (some ⟨w0.heap.size,0,none⟩) 1 1] w (fun e w'=>∃ G' r v s',e = .returned v∧G.le G'∧SRel Γ G' s' w'∧VRel G' r v ∧
      ∃ o cap rest,r = .osl o 0 1 (0 + 1) cap∧0 + 1≤cap∧cap < 2 ^ 63∧rest.length = cap - (0 + 1)∧(s.objs o = none∨∃ cap0,x = .osl o 0 1 0 cap0)∧s' = s.set o ([at'].map intC ++ rest)):=by
      intro base
      refine Calls.mono (Any2.slices_Insert_int_end_grow L base 0 0 w0.heap.size 0 1 1 [] [intW at'] w (by decide) (by decide) (by decide) (by decide) rfl rfl (fun _=>rfl) (by simp) hvs h1v) ?_
      rintro e' w' ⟨rfl,rfl⟩
      obtain ⟨o,k1,k2,k3,k4⟩:=hs.drew.newObj (cs:=[at'].map intC ++ (List.replicate (grownCap w (0 + 1) 0 (ρ.t 3) - (0 + 1)) 0).map intC) (vs:=[at'].map intW ++ (List.replicate (grownCap w (0 + 1) 0 (ρ.t 3) - (0 + 1)) 0).map intW) ((VRels.ints _).append (VRels.ints _)) (ρ.t 3)
      have harr : ([] ++ [intW at'] : List Value).toArray ++ Builtin.zeroCells (Value.int .i64 0).cells (grownCap w (0 + 1) 0 (ρ.t 3) - (0 + 1)) = ([at'].map intW ++ (List.replicate (grownCap w (0 + 1) 0 (ρ.t 3) - (0 + 1)) (0 : Int)).map intW).toArray:=by
        apply Array.ext'
        simp [zl]
      rw [harr]
      refine ⟨_,.osl o 0 1 (0 + 1) (grownCap w (0 + 1) 0 (ρ.t 3)),_,_,rfl,k2,k3,?_,o,_,_,rfl,grownCap_ge _ _ _ _,cut_appendCap_lt _ _ _ _ (by decide),by simp,.inl k1,rfl⟩
      simp only [VRel]
      exact ⟨_,k4,rfl,grownCap_ge _ _ _ _⟩
    rcases hx with rfl | rfl | rfl
    · simp only [nilS,VRel] at hxr
      subst hxr
      exact core none
    · simp only [VRel] at hxr
      rcases hxr with ⟨b,off,cap,vs,rfl,hl,_,hv0,hro,hsp⟩ | ⟨_,_,a,cap,rfl,hmere⟩ | ⟨_,_,h,_⟩
      · simp only [SpRel] at hsp
        subst hsp
        exact core _
      · rcases hmere with h | h | ⟨_,rfl⟩
        · cases h
        · cases h
        · exact core _
      · cases h
    · simp only [VRel] at hxr
      rcases hxr with ⟨b,off,cap,vs,rfl,hl,_,hv0,hro,hsp⟩ | ⟨_,_,a,cap,rfl,hmere⟩ | ⟨_,_,h,_⟩
      · simp only [SpRel] at hsp
        obtain ⟨rfl,_⟩:=hsp
        exact core _
      · rcases hmere with h | h | ⟨h,_⟩ <;> cases h
      · cases h
  · have hxr':=hxr
    simp only [VRel] at hxr
    obtain ⟨b,hb1,rfl,_⟩:=hxr
    obtain ⟨b',vs,q1,q2,q3,q4⟩:=hs.objs o _ ho
    rw [hb1] at q1
    cases q1
    have hvl:=q2.length
    have hcl : (l.map intC).length = l.length:=by simp
    rw [List.length_append,hcl,hrl] at hvl
    have hvt:=q2.take (l.map intC).length
    rw [List.take_left] at hvt
    have hvt:=VRels.ints_eq hvt
    rw [hcl] at hvt
    have hbw:=hold o b hb1
    have hcs : ∀ (j : Nat) (v : Value),(l.map intW)[j]? = some v→w.cell? ⟨b,0 + j,none⟩ = some v:=by
      intro j v hj
      rw [← hvt,List.getElem?_take] at hj
      split at hj
      · rw [Nat.zero_add]; exact (q4 j v hj).1
      · cases hj
    have hsp : ∀ j,j < cap→(w.cell? ⟨b,0 + j,none⟩).isSome = true:=fun j hj=>by
      rw [Nat.zero_add,(q4 j (vs[j]'(by omega)) (by simp)).1]; rfl
    have hfz : ∀ j,j < cap→w.frozen? ⟨b,0 + j,none⟩ = false:=fun j hj=>by
      rw [Nat.zero_add]; exact (q4 j (vs[j]'(by omega)) (by simp)).2.1
    have hrl' : rest.length = cap - l.length:=by omega
    rcases Nat.lt_or_ge cap (l.length + 1) with hno | hroom
    · rcases Nat.lt_or_ge i l.length with hil | hil
      · -- a new row, in the middle
        refine Calls.mono (Any2.slices_Insert_int_grow L b 0 l.length cap i w0.heap.size 0 1 1 (l.map intW) [intW at'] w hil (by decide) hnc hno (by omega) (by simp) rfl hcs hvs (one_ints l) h1v) ?_
        rintro e' w' ⟨rfl,rfl⟩
        have hg1:=grownCap_ge w (l.length + 1) cap (ρ.t 3)
        have hg2 : grownCap w (l.length + 1) cap (ρ.t 3) < 2 ^ 63:=cut_appendCap_lt _ _ _ _ (by omega)
        generalize hgc : grownCap w (l.length + 1) cap (ρ.t 3) = gc at *
        have harr : ((l.map intW).take i).toArray ++ Builtin.zeroCells (Value.int .i64 0).cells (l.length + 1 - i) ++ Builtin.zeroCells (Value.int .i64 0).cells (gc - (l.length + 1)) =
            ((l.take i).map intW ++ ((List.replicate (l.length + 1 - i) (0 : Int)).map intW ++ (List.replicate (gc - (l.length + 1)) (0 : Int)).map intW)).toArray:=by
          apply Array.ext'
          simp [zl]
        rw [harr]
        obtain ⟨o2,k1,k2,k3,k4⟩:=hs.newObj (cs:=(l.take i).map intC ++ ((List.replicate (l.length + 1 - i) (0 : Int)).map intC ++ (List.replicate (gc - (l.length + 1)) (0 : Int)).map intC))
          (vs:=(l.take i).map intW ++ ((List.replicate (l.length + 1 - i) (0 : Int)).map intW ++ (List.replicate (gc - (l.length + 1)) (0 : Int)).map intW)) ((VRels.ints _).append ((VRels.ints _).append (VRels.ints _))) (ρ.t 3)
        have hti : ((l.take i).map intC).length = i:=by simp; omega
        obtain ⟨_,_,f3⟩:=setCells_obj k3.drew (AS.set_objs_same _ _ _) k4 (off:=i) (ds:=[at'].map intC) (us:=[at'].map intW) (by simp; omega) (VRels.ints _)
        have e1:=asetAll_mid ([at'].map intC) ((l.take i).map intC) ((List.replicate (l.length + 1 - i) (0 : Int)).map intC ++ (List.replicate (gc - (l.length + 1)) (0 : Int)).map intC) (by simp; omega)
        rw [hti] at e1
        rw [e1,AS.set_set] at f3
        have hti2 : ((l.take i).map intC ++ [at'].map intC).length = i + 1:=by rw [List.length_append,hti]; rfl
        have hdl : ((l.drop i).map intC).length = l.length - i:=by simp
        have e2:=asetAll_mid ((l.drop i).map intC) ((l.take i).map intC ++ [at'].map intC) (((List.replicate (l.length + 1 - i) (0 : Int)).map intC ++ (List.replicate (gc - (l.length + 1)) (0 : Int)).map intC).drop ([at'].map intC).length) (by simp; omega)
        rw [hti2] at e2
        obtain ⟨_,_,f4⟩:=setCells_obj f3.drew (AS.set_objs_same _ _ _) k4 (off:=i + 1) (ds:=(l.drop i).map intC) (us:=(l.drop i).map intW) (by simp; omega) (VRels.ints _)
        rw [e2,AS.set_set] at f4
        have hfin : (l.take i).map intC ++ [at'].map intC ++ (l.drop i).map intC ++ ((((List.replicate (l.length + 1 - i) (0 : Int)).map intC ++ (List.replicate (gc - (l.length + 1)) (0 : Int)).map intC).drop ([at'].map intC).length).drop ((l.drop i).map intC).length) =
            (l.take i ++ at' :: l.drop i).map intC ++ (List.replicate (gc - (l.length + 1)) (0 : Int)).map intC:=by
          have hz : ((List.replicate (l.length + 1 - i) (0 : Int)).map intC).drop (1 + (l.length - i)) = []:=List.drop_eq_nil_of_le (by simp; omega)
          rw [List.drop_drop,hdl,List.length_map,List.length_singleton,List.drop_append,List.length_map,List.length_replicate,hz,List.nil_append,
            show 1 + (l.length - i) - (l.length + 1 - i) = 0 by omega,List.drop_zero]
          simp
        rw [hfin] at f4
        refine ⟨_,.osl o2 0 1 (l.length + 1) gc,_,_,rfl,k2,by simpa using f4,?_,o2,gc,_,rfl,hg1,hg2,by simp,.inl k1,rfl⟩
        simp only [VRel]
        exact ⟨_,k4,rfl,hg1⟩
      · -- a new row, at the end
        obtain rfl : i = l.length:=by omega
        refine Calls.mono (Any2.slices_Insert_int_end_grow L (some ⟨b,0,none⟩) l.length cap w0.heap.size 0 1 1 (l.map intW) [intW at'] w (by decide) hnc hno (by omega) (by simp) rfl (fun h=>by cases h) (fun a ha j v hj=>by cases ha; rw [add_spot]; exact hcs j v hj) hvs h1v) ?_
        rintro e' w' ⟨rfl,rfl⟩
        have hg1:=grownCap_ge w (l.length + 1) cap (ρ.t 3)
        have hg2 : grownCap w (l.length + 1) cap (ρ.t 3) < 2 ^ 63:=cut_appendCap_lt _ _ _ _ (by omega)
        generalize hgc : grownCap w (l.length + 1) cap (ρ.t 3) = gc at *
        obtain ⟨o2,k1,k2,k3,k4⟩:=hs.drew.newObj (cs:=(l ++ [at']).map intC ++ (List.replicate (gc - (l.length + 1)) 0).map intC) (vs:=(l ++ [at']).map intW ++ (List.replicate (gc - (l.length + 1)) 0).map intW) ((VRels.ints _).append (VRels.ints _)) (ρ.t 3)
        have harr : (l.map intW ++ [intW at'] : List Value).toArray ++ Builtin.zeroCells (Value.int .i64 0).cells (gc - (l.length + 1)) = ((l ++ [at']).map intW ++ (List.replicate (gc - (l.length + 1)) (0 : Int)).map intW).toArray:=by
          apply Array.ext'
          simp [zl]
        rw [harr]
        refine ⟨_,.osl o2 0 1 (l.length + 1) gc,_,_,rfl,k2,k3,?_,o2,gc,(List.replicate (gc - (l.length + 1)) (0 : Int)).map intC,rfl,hg1,hg2,by simp,.inl k1,by rw [List.take_length,List.drop_length]⟩
        simp only [VRel]
        exact ⟨_,k4,rfl,hg1⟩
    · obtain ⟨r0,rest',hrest⟩ : ∃ r0 rest',rest = r0 :: rest':=by
        cases rest with
        | nil=>simp at hrl'; omega
        | cons a r=>exact ⟨a,r,rfl⟩
      have hrl2 : rest'.length = cap - (l.length + 1):=by rw [hrest] at hrl'; simp at hrl'; omega
      rcases Nat.lt_or_ge i l.length with hil | hil
      · -- in place
        obtain ⟨TB,kB,hsb,hkB⟩:=shape_of_cell (q4 0 (vs[0]'(by omega)) (by simp)).1
        have hsa : w.shape? w0.heap.size = some (e,1):=by rw [← hw]; simp only [World.shape?,World.alloc,Array.getElem?_push_size]; rfl
        have hfz0 : ∀ j,w.frozen? ⟨w0.heap.size,j,none⟩ = false:=fun j=>by rw [← hw]; exact World.frozen?_alloc_new _ _ _ _
        refine Calls.mono (Any2.slices_Insert_int_shift L b 0 l.length cap i w0.heap.size 0 1 1 (l.map intW) [intW at'] w hil (by decide) hroom (by omega) (by omega) (by simp) rfl hcs (fun j hj=>hsp j (by omega)) (fun j hj=>hfz j (by omega)) hvs (one_ints l) h1v e TB 1 kB hsa hsb hkB (hfz0 0) (hfz0 1)) ?_
        rintro e' w' ⟨rfl,rfl⟩
        obtain ⟨_,_,f3⟩:=setCells_obj hs.drew ho hb1 (off:=0 + (i + 1)) (ds:=(l.drop i).map intC) (us:=(l.drop i).map intW) (by simp; omega) (VRels.ints _)
        obtain ⟨_,_,f4⟩:=setCells_obj f3 (AS.set_objs_same _ _ _) hb1 (off:=0 + i) (ds:=[at'].map intC) (us:=[at'].map intW) (by rw [length_asetAll]; simp; omega) (VRels.ints _)
        rw [AS.set_set] at f4
        have hdrop : l.drop i = l[i] :: l.drop (i + 1):=List.drop_eq_getElem_cons hil
        have hfin : asetAll (asetAll (l.map intC ++ rest) (0 + (i + 1)) ((l.drop i).map intC)) (0 + i) ([at'].map intC) = (l.take i ++ at' :: l.drop i).map intC ++ rest':=by
          have h:=insert_cells ((l.take i).map intC) ((l.drop (i + 1)).map intC) (intC l[i]) (intC at') r0 rest'
          have hti : ((l.take i).map intC).length = i:=by simp; omega
          rw [hti] at h
          rw [Nat.zero_add,Nat.zero_add,hdrop,List.map_append,List.map_cons,List.map_cons,hrest]
          have hl : l.map intC = (l.take i).map intC ++ intC l[i] :: (l.drop (i + 1)).map intC:=by
            rw [← List.map_cons,← hdrop,← List.map_append,List.take_append_drop]
          rw [hl]
          rw [List.map_cons,List.map_nil,h,List.map_cons]
        rw [hfin] at f4
        refine ⟨G,.osl o 0 1 (l.length + 1) cap,_,_,rfl,.refl G,by simpa using f4,?_,o,cap,rest',rfl,hroom,h63,hrl2,.inr ⟨cap,rfl⟩,rfl⟩
        simp only [VRel]
        exact ⟨_,hb1,rfl,hroom⟩
      · obtain rfl : i = l.length:=by omega
        refine Calls.mono (Any2.slices_Insert_int_end_room L b 0 l.length cap w0.heap.size 0 1 1 [intW at'] w (by decide) hroom (by omega) rfl (fun j hj=>by rw [Nat.add_assoc]; exact hsp _ (by omega)) (fun j hj=>by rw [Nat.add_assoc]; exact hfz _ (by omega)) hvs h1v) ?_
        rintro e' w' ⟨rfl,rfl⟩
        obtain ⟨_,_,f3⟩:=setCells_obj hs ho hb1 (off:=0 + l.length) (ds:=[at'].map intC) (us:=[at'].map intW) (by simp; omega) (VRels.ints _)
        have e1:=asetAll_mid ([at'].map intC) (l.map intC) rest (by rw [hrest]; simp)
        rw [hcl] at e1
        rw [Nat.zero_add,e1,hrest] at f3
        refine ⟨G,.osl o 0 1 (l.length + 1) cap,_,_,rfl,.refl G,by simpa using f3,?_,o,cap,rest',rfl,hroom,h63,hrl2,.inr ⟨cap,rfl⟩,by simp⟩
        simp only [VRel]
        exact ⟨_,hb1,rfl,hroom⟩
end Go.AM
namespace Go.AM
open Go Go.RowKit Go.Shelf Go.Proofs
variable {P : Program} {Γ : Nat→List AV} {G : Gh} {s : AS} {w : World} {N : Nat}
theorem run_lit1 {T e : TypeId} (x : Int) (hu : P.underlying T = some (.slice e)) (hz : zcells P e = some [.v (.int .i64 0)]) (hc : P.cellsOf e = 1) :
    (Instr.buildSlice T 1 #[(0,intW x)]).run P w = .ok (.slice (some ⟨w.heap.size,0,none⟩) 1 1) (w.alloc (.cells #[intW x] e)):=by
  obtain ⟨v,hv,hvz⟩:=zcells_some hz
  have h1 : afill (fun i=>some (i * P.cellsOf e,P.cellsOf e)) (zrow (1 * P.cellsOf e) [.v (.int .i64 0)]) [(0,intC x)] = some [intC x]:=by
    rw [hc]; rfl
  have hne : v.cells.toList≠[]:=by
    intro e'
    rw [e'] at hvz
    cases hvz
  rw [hvz] at h1
  obtain ⟨vs,h2,h3⟩:=afill_sound (G:=⟨fun _ _=>none,fun _=>none,fun _ _=>none,0,0,0,w,[]⟩) (qs:=((#[(0,intW x)] : Array (Nat × Value))).toList) _ h1 (.cons 0 (by simp [intC,intW,VRel]) .nil) (VRels_zrow (1 * P.cellsOf e) hne)
  have h3 : vs = [intW x]:=VRels.ints_eq (l:=[x]) h3
  subst h3
  have hcells : (Array.range (1 * P.cellsOf e)).map (fun i=>v.cells[i % v.cells.size]!) = ((List.range (1 * P.cellsOf e)).map fun i=>v.cells.toList.toArray[i % v.cells.toList.toArray.size]!).toArray:=by
    apply Array.ext'
    simp
  simp only [Instr.buildSlice,Sem.run_bind,run_underlying hu,Result.andThen_ok,run_sizeOf' (show P.cellsOf e≠0 by omega)]
  rw [if_neg (by omega),if_neg (by omega)]
  simp only [Sem.run_bind,hv,Sem.run_pure,Result.andThen_ok,hcells]
  simp only [h2]
  simp [newRow]
theorem insert_hop {ρ : Ren} (L : Lays2.n21 P ρ) {E : Env} {a : Act} {o1 o : Oper} {xo io ao : Operand} {d1 : Tmp} {T e : TypeId} {l : List Int} {i : Nat} {x : Int} {ats : Array TypeId}
    (ho1 : o1.op = .buildSlice T 1 #[(0,ao)]) (hd1 : o1.dst = some d1) (hu : P.underlying T = some (.slice e)) (hz : zcells P e = some [.v (.int .i64 0)]) (hc : P.cellsOf e = 1)
    (ho : o.op = .call { callee:=.value (.func (ρ.f 21)),args:=#[xo,io,.tmp d1],argTypes:=ats }) (hcall : callable P (ρ.f 21) = true) (hx1 : xo≠.tmp d1) (hi1 : io≠.tmp d1)
    (hb : OBuf 1 s (aeval Γ E xo) l.length (l.map intC)) (hi : aeval Γ E io = .v (.int .i64 (i : Int))) (ha : aeval Γ E ao = .v (.int .i64 x)) (hil : i≤l.length) (hn : l.length≤2 ^ 40)
    (hdN : d1 < N) (hr : Rel Γ N G E s a w) :
    ∃ G1 v w1,(execOp a.eval o1).run P w = .ok (.value v) w1∧G.le G1∧SRel Γ G1 s w1∧VRel G1 (.sl 1 1 [intC x] .no) v ∧
      ∀ a1,a1 = a.put o1.dst v→Rel Γ N G1 (updO E o1.dst (.sl 1 1 [intC x] .no)) s a1 w1→OpRes P Γ G1 (fun r s'=>∃ ob cap rest,r = .osl ob 0 1 (l.length + 1) cap∧l.length + 1≤cap∧cap < 2 ^ 63∧rest.length = cap - (l.length + 1) ∧
        (s.objs ob = none∨∃ cap0,aeval Γ E xo = .osl ob 0 1 l.length cap0)∧s' = s.set ob ((l.take i ++ x :: l.drop i).map intC ++ rest)) ((execOp a1.eval o).run P w1):=by
  have hav:=hr.eval ao
  rw [ha] at hav
  simp only [VRel] at hav
  obtain ⟨g1,g2⟩:=hr.st.newRo [intW x] #[intW x] e (by simp)
  refine ⟨_,.slice (some ⟨w.heap.size,0,none⟩) 1 1,_,?_,g1,g2,?_,?_⟩
  · simp only [execOp,ho1,Sem.run_bind]
    rw [show (#[(0,ao)] : Array (Nat × Operand)).map (fun p=>(p.1,a.eval p.2)) = #[(0,intW x)] by simp [hav,intW]]
    rw [run_lit1 x hu hz hc]
    rfl
  · simp only [VRel]
    refine .inl ⟨w.heap.size,0,1,[intW x],rfl,rfl,Nat.le_refl _,VRels.ints [x],?_,trivial⟩
    exact RoAt.added G w.heap.size 0 [intW x]
  · rintro a1 rfl hr1
    have ex : (a.put o1.dst (.slice (some ⟨w.heap.size,0,none⟩) 1 1)).eval (.tmp d1) = .slice (some ⟨w.heap.size,0,none⟩) 1 1:=by
      rw [hd1]
      simp [Act.put,Act.eval,Array.getD,hr.size,hdN]
    have ep : ∀ y : Operand,y≠.tmp d1→(a.put o1.dst (.slice (some ⟨w.heap.size,0,none⟩) 1 1)).eval y = a.eval y:=fun y hy=>Act.eval_put (fun d hd=>by rw [hd1] at hd; cases hd; exact hy)
    have e2:=hr1.eval xo
    rw [aeval_put (fun d hd=>by rw [hd1] at hd; cases hd; exact hx1),ep xo hx1] at e2
    have e3:=hr.eval io
    rw [hi] at e3
    simp only [VRel] at e3
    have hcalls:=insert_res L (s:=s) x hb hil hn g2 e2 (fun o b h=>hr.st.objLt o b h)
    obtain ⟨dst,op,type,pos,after,guard⟩:=o
    simp only at ho
    subst ho
    have ef : (a.put o1.dst (.slice (some ⟨w.heap.size,0,none⟩) 1 1)).eval (.func (ρ.f 21)) = .func (.func (ρ.f 21)) #[] #[]:=rfl
    have:=(run_callFunc (w:=w.alloc (.cells #[intW x] e)) hcall #[a.eval xo,.int .i64 i,.slice (some ⟨w.heap.size,0,none⟩) 1 1])
    simp only [execOp,resolve,Deferred.ofValue,invoke,ef,List.map_toArray,List.map_cons,List.map_nil,ep xo hx1,ep io hi1,e3,ex,Sem.run_bind,Sem.run_pure,Result.andThen_ok]
    simp only [List.append_nil,Array.append_empty,Array.empty_append,this,OpRes]
    exact hcalls
end Go.AM
namespace Go.AM
open Go Go.RowKit
variable {P : Program} {Γ : Nat→List AV} {G : Gh} {s : AS} {w : World} {N : Nat}
def onm : AV→Option Nat
  | .osl o _ _ _ _=>some o
  | _=>none
def cellsX (p : NodeV × AV) : List AV:=[.v (.int .i64 p.1.kind),bytesV p.1.name .any,.v (.int .u64 p.1.key),bytesV p.1.parent .any,p.2]
theorem cellsX_len (p : NodeV × AV) : (cellsX p).length = 5:=rfl
theorem cells_len (n : NodeV) : n.cells.length = 5:=rfl
theorem OBuf.le {sz n : Nat} {x : AV} {cs : List AV} {s s' : AS} (h : OBuf sz s x n cs) (k : s.le s') : OBuf sz s' x n cs:=by
  rcases h with h | ⟨o,cap,rest,h1,h2,h3⟩
  · exact .inl h
  · exact .inr ⟨o,cap,rest,h1,k.objs _ _ h2,h3⟩
theorem OBuf.set_ne {sz n : Nat} {x : AV} {cs : List AV} {s : AS} {o : Nat} {ds : List AV} (h : OBuf sz s x n cs) (k : onm x≠some o) : OBuf sz (s.set o ds) x n cs:=by
  rcases h with h | ⟨o',cap,rest,rfl,h2,h3⟩
  · exact .inl h
  · exact .inr ⟨o',cap,rest,rfl,by rw [AS.set_objs_ne _ (fun e=>k (by rw [e]; rfl))]; exact h2,h3⟩
theorem OBuf.drop_ne {sz n : Nat} {x : AV} {cs : List AV} {s : AS} {o : Nat} (h : OBuf sz s x n cs) (k : onm x≠some o) : OBuf sz (s.drop o) x n cs:=by
  rcases h with h | ⟨o',cap,rest,rfl,h2,h3⟩
  · exact .inl h
  · exact .inr ⟨o',cap,rest,rfl,by rw [AS.drop_objs,upd_ne _ _ (fun e=>k (by rw [e]; rfl))]; exact h2,h3⟩
theorem OBuf.some {sz n : Nat} {x : AV} {cs : List AV} {s : AS} {o : Nat} (h : OBuf sz s x n cs) (k : onm x = some o) : ∃ ds,s.objs o = some ds:=by
  rcases h with ⟨_,_,rfl | rfl | rfl⟩ | ⟨o',cap,rest,rfl,h2,h3⟩
  · cases k
  · cases k
  · cases k
  · cases k; exact ⟨_,h2⟩
theorem empty_weak {sz : Nat} {sp : Sp} (h : sp = .full∨sp = .new) : (AV.sl sz 0 [] sp).weak (.sl sz 0 [] .any):=by
  intro G u hv
  simp only [VRel] at hv ⊢
  rcases hv with ⟨b,off,cap,vs,h1,h2,h3,h4,h5,h6⟩ | ⟨_,_,a,cap,h1,_⟩ | ⟨_,_,h1,_⟩
  · exact .inl ⟨b,off,cap,vs,h1,h2,h3,h4,h5,trivial⟩
  · exact .inr (.inl ⟨trivial,trivial,a,cap,h1,by simp⟩)
  · rcases h with rfl | rfl <;> cases h1
structure XsOk (s0 s : AS) (T : List (NodeV × AV)) : Prop where
  buf : ∀ p ∈ T,OBuf 1 s p.2 p.1.unm.length (p.1.unm.map intC)
  new : ∀ p ∈ T,∀ o,onm p.2 = some o→s0.objs o = none
  sep : T.Pairwise fun p q=>∀ o,onm p.2 = some o→onm q.2≠some o
structure TreeO (s0 s : AS) (X : AV) (T : List (NodeV × AV)) : Prop where
  xs : XsOk s0 s T
  le : s0.le s
  row : OBuf 5 s X T.length (rowC cellsX T)
  newR : ∀ O,onm X = some O→s0.objs O = none
  sepR : ∀ O,onm X = some O→∀ p ∈ T,onm p.2≠some O
theorem AS.le_none {s s' : AS} (h : s.le s') {o : Nat} (k : s'.objs o = none) : s.objs o = none:=by
  cases hs : s.objs o with
  | none=>rfl
  | some cs=>rw [h.objs _ _ hs] at k; cases k
theorem TreeO.nil (s : AS) : TreeO s s nilS [] :=
  ⟨⟨fun p hp=>absurd hp (List.not_mem_nil),fun p hp=>absurd hp (List.not_mem_nil),.nil⟩,.refl s,.inl ⟨rfl,rfl,.inl rfl⟩,(fun O h=>by cases h),(fun O h=>by cases h)⟩
theorem TreeO.push {s0 s : AS} {X : AV} {T : List (NodeV × AV)} {p : NodeV × AV} {ob cap : Nat} {rest : List AV} (h : TreeO s0 s X T) (hb : OBuf 1 s p.2 p.1.unm.length (p.1.unm.map intC))
    (h1 : ∀ o,onm p.2 = some o→s0.objs o = none∧(∀ q ∈ T,onm q.2≠some o)∧onm X≠some o) (h2 : s.objs ob = none∨∃ cap0,X = .osl ob 0 5 T.length cap0) (h3 : T.length + 1≤cap) (h4 : cap < 2 ^ 63) (h5 : rest.length = (cap - (T.length + 1)) * 5) :
    TreeO s0 (s.set ob (rowC cellsX T ++ cellsX p ++ rest)) (.osl ob 0 5 (T.length + 1) cap) (T ++ [p]):=by
  have hob0 : s0.objs ob = none:=by
    rcases h2 with h2 | ⟨cap0,h2⟩
    · exact AS.le_none h.le h2
    · exact h.newR ob (by rw [h2]; rfl)
  have hne : ∀ q ∈ T ++ [p],onm q.2≠some ob:=by
    intro q hq e
    rw [List.mem_append,List.mem_singleton] at hq
    rcases h2 with h2 | ⟨cap0,h2⟩
    · have : ∃ ds,s.objs ob = some ds:=by
        rcases hq with hq | rfl
        · exact (h.xs.buf q hq).some e
        · exact hb.some e
      rw [h2] at this
      obtain ⟨ds,hd⟩:=this
      cases hd
    · have hX : onm X = some ob:=by rw [h2]; rfl
      rcases hq with hq | rfl
      · exact h.sepR ob hX q hq e
      · exact (h1 ob e).2.2 hX
  refine ⟨⟨fun q hq=>?_,fun q hq o ho=>?_,?_⟩,AS.le_set h.le hob0 _,.inr ⟨ob,cap,rest,by rw [List.length_append]; rfl,by rw [AS.set_objs_same,row_snoc],?_,by rw [List.length_append]; exact h5,by rw [List.length_append]; exact h3,h4⟩,fun O hO=>?_,fun O hO q hq=>?_⟩
  · have hq':=hq
    rw [List.mem_append,List.mem_singleton] at hq
    rcases hq with hq | rfl
    · exact (h.xs.buf q hq).set_ne (hne q hq')
    · exact hb.set_ne (hne q hq')
  · rw [List.mem_append,List.mem_singleton] at hq
    rcases hq with hq | rfl
    · exact h.xs.new q hq o ho
    · exact (h1 o ho).1
  · rw [List.pairwise_append]
    refine ⟨h.xs.sep,List.pairwise_singleton _ _,fun a ha b hb' o ho=>?_⟩
    rw [List.mem_singleton] at hb'
    subst hb'
    intro e
    exact (h1 o e).2.1 a ha ho
  · exact row_len cellsX_len _
  · cases hO; exact hob0
  · cases hO; exact hne q hq
theorem settle_xs {s0 : AS} {O : Nat} {rest : List AV} (hO0 : s0.objs O = none) (x : AV) : ∀ (B : List (NodeV × AV)) (A : List NodeV) (s : AS),XsOk s0 s B→s0.le s→(∀ p ∈ B,onm p.2≠some O)→s.objs O = some (rowC NodeV.cells A ++ rowC cellsX B ++ rest) →
    ∃ s',Settles Γ s x s' x∧s'.objs O = some (rowC NodeV.cells (A ++ B.map (·.1)) ++ rest)∧s0.le s':=by
  intro B
  induction B with
  | nil =>
    intro A s _ hle _ hO
    refine ⟨s,.refl x,?_,hle⟩
    simpa [rowC] using hO
  | cons p B ih =>
    intro A s hx hle hne hO
    have hsplit : rowC NodeV.cells A ++ rowC cellsX (p :: B) ++ rest = (rowC NodeV.cells A ++ [.v (.int .i64 p.1.kind),bytesV p.1.name .any,.v (.int .u64 p.1.key),bytesV p.1.parent .any]) ++ p.2 :: (rowC cellsX B ++ rest):=by
      simp [rowC,cellsX]
    rw [hsplit] at hO
    have hjoin : (rowC NodeV.cells A ++ [.v (.int .i64 p.1.kind),bytesV p.1.name .any,.v (.int .u64 p.1.key),bytesV p.1.parent .any]) ++ intsV p.1.unm .any :: (rowC cellsX B ++ rest) = rowC NodeV.cells (A ++ [p.1]) ++ rowC cellsX B ++ rest:=by
      simp [rowC,NodeV.cells]
    have hsep:=List.pairwise_cons.1 hx.sep
    have hp : p ∈ p :: B:=List.mem_cons_self
    have hrest : ∀ s' : AS,(∀ q ∈ B,OBuf 1 s' q.2 q.1.unm.length (q.1.unm.map intC))→XsOk s0 s' B:=fun s' h=>⟨h,fun q hq=>hx.new q (List.mem_cons_of_mem _ hq),hsep.2⟩
    rcases hx.buf p hp with ⟨h0,hl0,hv⟩ | ⟨o,cap,rs,hv,ho,hcl,hrl,hnc,h63⟩
    · have hw : p.2.weak (intsV p.1.unm .any):=by
        have hu : p.1.unm = []:=List.eq_nil_of_length_eq_zero h0
        rw [hu]
        rcases hv with hv | hv | hv
        · rw [hv]; exact AV.weak_nil
        · rw [hv]; exact empty_weak (.inl rfl)
        · rw [hv]; exact empty_weak (.inr rfl)
      have h1:=Settles.cells (Γ:=Γ) x hO hw
      rw [hjoin] at h1
      obtain ⟨s',k1,k2,k3⟩:=ih (A ++ [p.1]) _ (hrest _ fun q hq=>(hx.buf q (List.mem_cons_of_mem _ hq)).set_ne (hne q (List.mem_cons_of_mem _ hq))) (AS.le_set hle hO0 _) (fun q hq=>hne q (List.mem_cons_of_mem _ hq)) (AS.set_objs_same _ _ _)
      refine ⟨s',h1.trans k1,?_,k3⟩
      simpa using k2
    · have hpo : onm p.2 = some o:=by rw [hv]; rfl
      have hOo : O≠o:=fun e=>hne p hp (by rw [hpo,e])
      rw [hv] at hO
      have h1:=Settles.inner (Γ:=Γ) x hO ho hOo hcl
      have e : (AV.sl 1 p.1.unm.length (p.1.unm.map intC) .any) = intsV p.1.unm .any:=rfl
      rw [e,hjoin] at h1
      obtain ⟨s',k1,k2,k3⟩:=ih (A ++ [p.1]) _ (hrest _ fun q hq=>((hx.buf q (List.mem_cons_of_mem _ hq)).drop_ne (hsep.1 q hq o hpo)).set_ne (hne q (List.mem_cons_of_mem _ hq))) (AS.le_set (AS.le_drop hle (hx.new p hp o hpo)) hO0 _) (fun q hq=>hne q (List.mem_cons_of_mem _ hq)) (AS.set_objs_same _ _ _)
      refine ⟨s',h1.trans k1,?_,k3⟩
      simpa using k2
theorem TreeO.settle {s0 s : AS} {X : AV} {T : List (NodeV × AV)} (h : TreeO s0 s X T) : ∃ s',Settles Γ s X s' (treeV (T.map (·.1)))∧s0.le s':=by
  rcases h.row with ⟨h0,hl0,hv⟩ | ⟨O,cap,rest,hv,hO,hcl,hrl,hnc,h63⟩
  · have hT : T = []:=List.eq_nil_of_length_eq_zero h0
    subst hT
    refine ⟨s,Settles.weak ?_,h.le⟩
    rcases hv with hv | hv | hv
    · rw [hv]; exact AV.weak_nil
    · rw [hv]; exact empty_weak (.inl rfl)
    · rw [hv]; exact empty_weak (.inr rfl)
  · have hX : onm X = some O:=by rw [hv]; rfl
    obtain ⟨s1,k1,k2,k3⟩:=settle_xs (Γ:=Γ) (h.newR O hX) X T [] s h.xs h.le (h.sepR O hX) (by simpa [rowC] using hO)
    rw [List.nil_append] at k2
    have k4:=Settles.outer (Γ:=Γ) (n:=T.length) (sz:=5) (cap:=cap) k2 (by rw [row_len cells_len,List.length_map])
    rw [hv] at k1 ⊢
    refine ⟨_,k1.trans ?_,AS.le_drop k3 (h.newR O hX)⟩
    unfold treeV
    rw [List.length_map]
    exact k4
end Go.AM
namespace Go.AM
open Go Go.RowKit Go.Shelf Go.Proofs
variable {P : Program} {Γ : Nat→List AV} {G : Gh} {s : AS} {w : World} {N : Nat}
theorem SRel.drewN (h : SRel Γ G s w) : ∀ q,SRel Γ G s (w.drewN q)
  | 0=>h
  | q + 1=>(SRel.drewN h q).drew
theorem search_calls {ρ : Ren} (L : Lays2.n25 P ρ) {x : AV} {l : List Int} (v : Int) (hl : l.length < 2 ^ 62) (hs : l.Pairwise (·≤·)) (hb : OBuf 1 s x l.length (l.map intC)) :
    ACalls P Γ (ρ.f 25) [x,.v (.int .i64 v)] s (fun r s'=>r = .tup [.v (.int .i64 ((l.countP (· < v) : Nat) : Int)),.v (.bool (l.contains v))]∧s' = s):=by
  intro G w vs hsr hv
  simp only [VRels] at hv
  obtain ⟨u,us,rfl,hx,u2,us2,rfl,h2,rfl⟩:=hv
  simp only [VRel] at h2
  subst h2
  have fin : ∀ q,∃ G' r v' s',Ending.returned (.tuple #[.int .i64 ((l.countP (· < v) : Nat) : Int),.bool (l.contains v)]) = .returned v'∧G.le G'∧SRel Γ G' s' (w.drewN q)∧VRel G' r v'∧(r = .tup [.v (.int .i64 ((l.countP (· < v) : Nat) : Int)),.v (.bool (l.contains v))]∧s' = s):=by
    intro q
    refine ⟨G,_,_,s,rfl,.refl G,hsr.drewN q,?_,rfl,rfl⟩
    simp only [VRel,VRels]
    exact ⟨[_,_],rfl,_,_,rfl,rfl,_,_,rfl,rfl,rfl⟩
  have emp : ∀ a c,l = []→Calls P (ρ.f 25) #[.slice a 0 c,.int .i64 v] w fun e w'=>∃ G' r v' s',e = .returned v'∧G.le G'∧SRel Γ G' s' w'∧VRel G' r v'∧(r = .tup [.v (.int .i64 ((l.countP (· < v) : Nat) : Int)),.v (.bool (l.contains v))]∧s' = s):=by
    intro a c h0
    refine (Any.slices_BinarySearch_int_empty L a c v w).mono ?_
    rintro e w' ⟨rfl,rfl⟩
    subst h0
    exact fin 0
  rcases hb with ⟨h0,hl0,hx0⟩ | ⟨o,cap,rest,rfl,ho,hcl,hrl,hnc,h63⟩
  · have hle : l = []:=List.eq_nil_of_length_eq_zero h0
    rcases hx0 with rfl | rfl | rfl
    · simp only [nilS,VRel] at hx
      subst hx
      exact emp _ _ hle
    · simp only [VRel] at hx
      rcases hx with ⟨b,off,cap,vs,rfl,_⟩ | ⟨_,_,a,cap,rfl,_⟩ | ⟨_,_,_,rfl⟩ <;> exact emp _ _ hle
    · simp only [VRel] at hx
      rcases hx with ⟨b,off,cap,vs,rfl,_⟩ | ⟨_,_,a,cap,rfl,_⟩ | ⟨_,_,_,rfl⟩ <;> exact emp _ _ hle
  · simp only [VRel] at hx
    obtain ⟨b,hb1,rfl,_⟩:=hx
    obtain ⟨b',vs,q1,q2,q3,q4⟩:=hsr.objs o _ ho
    rw [hb1] at q1
    cases q1
    have hvt:=q2.take (l.map intC).length
    rw [List.take_left] at hvt
    have hvt:=VRels.ints_eq hvt
    have hc : ∀ j,j < l.length→w.cell? ⟨b,0 + j,none⟩ = some (.int .i64 (l.getD j 0)):=by
      intro j hj
      rw [Nat.zero_add]
      refine (q4 j _ ?_).1
      have : (vs.take (l.map intC).length)[j]? = some (intW l[j]):=by rw [hvt]; simp [hj]
      rw [List.getElem?_take] at this
      split at this
      · rw [this]; simp [intW,List.getD,hj]
      · cases this
    refine (Any.slices_BinarySearch_int L b 0 l.length cap l v w (Nat.le_refl _) (by omega) hc (by rw [List.take_length]; exact hs)).mono ?_
    rintro e w' ⟨rfl,q,rfl⟩
    rw [List.take_length]
    exact fin q
end Go.AM
namespace Go.AM
open Go Go.RowKit
variable {P : Program} {Γ : Nat→List AV} {G : Gh} {s : AS} {w : World} {N : Nat}
theorem flat_bytes' (l : List UInt8) : ∀ c ∈ l.map byteV,∃ x,c = .v x:=by
  intro c hc
  obtain ⟨b,_,rfl⟩:=List.mem_map.1 hc
  exact ⟨_,rfl⟩
theorem flat_ints' (l : List Int) : ∀ c ∈ l.map intC,∃ x,c = .v x:=by
  intro c hc
  obtain ⟨b,_,rfl⟩:=List.mem_map.1 hc
  exact ⟨_,rfl⟩
theorem View.nilZ {sz : Nat} : View Γ s (.v (.slice none 0 0)) (.sl sz 0 [] .any):=fun G w u _ hv=>AV.weak_nil _ _ (by simpa [Go.AM.nilS,VRel] using hv)
theorem OBuf.view {sz n : Nat} {x : AV} {cs ds : List AV} (h : OBuf sz s x n cs) (k : Views Γ s cs ds) (hd : cs = []→ds = []) : View Γ s x (.sl sz n ds .any):=by
  rcases h with ⟨rfl,h0,hx⟩ | ⟨o,cap,rest,rfl,ho,hcl,_⟩
  · rw [hd h0]
    rcases hx with rfl | rfl | rfl
    · exact View.nilZ
    · exact View.empty (.inl rfl)
    · exact View.empty (.inr rfl)
  · exact View.osl2 ho hcl k
theorem views_row {s0 : AS} : ∀ {T : List (NodeV × AV)},(∀ p ∈ T,OBuf 1 s p.2 p.1.unm.length (p.1.unm.map intC))→Views Γ s (rowC cellsX T) (rowC NodeV.cells (T.map (·.1)))
  | [],_=>by simpa [rowC] using (Views.nil : Views Γ s [] [])
  | p :: T,h=>by
    have h1 : Views Γ s (cellsX p) p.1.cells:=by
      refine .cons .val (.cons (View.sl (flat_bytes' _)) (.cons .val (.cons (View.sl (flat_bytes' _)) (.cons ?_ .nil))))
      exact (h p (List.mem_cons_self)).view (Views.flat (flat_ints' _)) (fun e=>e)
    have h2:=views_row (s0:=s0) (T:=T) (fun q hq=>h q (List.mem_cons_of_mem _ hq))
    have e1 : rowC cellsX (p :: T) = cellsX p ++ rowC cellsX T:=by simp [rowC]
    have e2 : rowC NodeV.cells ((p :: T).map (·.1)) = p.1.cells ++ rowC NodeV.cells (T.map (·.1)):=by simp [rowC]
    rw [e1,e2]
    exact h1.append h2
theorem TreeO.view {s0 : AS} {X : AV} {T : List (NodeV × AV)} (h : TreeO s0 s X T) : View Γ s X (treeV (T.map (·.1))):=by
  have:=h.row.view (views_row (Γ:=Γ) (s0:=s0) h.xs.buf) (fun e=>by
    cases T with
    | nil=>rfl
    | cons p T=>simp [rowC,cellsX] at e)
  unfold treeV
  rw [List.length_map]
  exact this
end Go.AM
namespace Go.AM
open Go
def leafN (name : List UInt8) (key : Nat) : NodeV:=⟨1,name,key,[],[]⟩
def insU (u : List Int) (v : Int) : List Int:=u.take (u.countP (· < v)) ++ v :: u.drop (u.countP (· < v))
def putU (v : Nat) (t : List NodeV) (up : Nat) : List NodeV:=if (nd t up).kind = 2 then t.set up { nd t up with unm:=insU (nd t up).unm (v : Int) } else t
def frT (t : List NodeV) : Nat→Nat→Nat
  | 0,i=>i
  | f + 1,i=>if memI t (i : Int) then frT t f (i + 1) else i
def freeT (t : List NodeV) : Nat:=frT t 33 0
def moreT (t : List NodeV) (v : Nat) : List NodeV:=if v = lvs t then t ++ List.replicate (t.length + 1) NodeV.nought else t
def addAt (t : List NodeV) (v : Nat) (n : NodeV) : List NodeV:=(pathL v (lvs (moreT t v))).foldl (putU v) ((moreT t v).set (2 * v) n)
theorem insU_len (u : List Int) (v : Int) : (insU u v).length = u.length + 1:=by
  have : u.countP (· < v)≤u.length:=List.countP_le_length
  simp [insU]
  omega
theorem putU_len (v : Nat) (t : List NodeV) (up : Nat) : (putU v t up).length = t.length:=by
  unfold putU
  split <;> simp
theorem putsU_len (v : Nat) : ∀ (l : List Nat) (t : List NodeV),(l.foldl (putU v) t).length = t.length
  | [],_=>rfl
  | x :: l,t=>by rw [List.foldl_cons,putsU_len v l,putU_len]
theorem memI_lt {t : List NodeV} {i : Nat} (h : memI t (i : Int)) : i < lvs t:=by have:=h.2.1; omega
theorem frT_spec (t : List NodeV) : ∀ f i,lvs t < i + f→i≤lvs t→(∀ j,j < i→memI t (j : Int))→frT t f i≤lvs t∧¬ memI t ((frT t f i : Nat) : Int)∧∀ j,j < frT t f i→memI t (j : Int)
  | 0,i,h,h2,_=>by omega
  | f + 1,i,h,h2,hj=>by
    simp only [frT]
    split
    · rename_i hm
      have:=memI_lt hm
      refine frT_spec t f (i + 1) (by omega) (by omega) (fun j hlt=>?_)
      by_cases e : j = i
      · rw [e]; exact hm
      · exact hj j (by omega)
    · rename_i hm
      exact ⟨h2,hm,hj⟩
theorem freeT_spec (t : List NodeV) : freeT t≤lvs t∧¬ memI t ((freeT t : Nat) : Int)∧∀ j,j < freeT t→memI t (j : Int) :=
  frT_spec t 33 0 (by have:=lvs_le t; omega) (Nat.zero_le _) (fun j h=>by omega)
def addR (t : List NodeV) (name : List UInt8) (key : Nat) : List NodeV × Nat × Int :=
  if ¬ rightT t then ([],0,40)
  else if ¬ (leafN name key).right then ([],0,2)
  else if 0≤namedI t name 0 then ([],0,31)
  else if freeT t = 32 then ([],0,21)
  else (addAt t (freeT t) (leafN name key),freeT t,0)
def treeN (t : List NodeV) : AV:=if t = [] then nilS else treeV t
end Go.AM
namespace Go.AM
open Go Go.RowKit
variable {Γ : Nat→List AV} {s : AS}
theorem TreeO.put {s0 s s1 : AS} {O cap : Nat} {rest : List AV} {T : List (NodeV × AV)} {i : Nat} {p : NodeV × AV} {n : Nat} (h : TreeO s0 s (.osl O 0 5 n cap) T) (hi : i < T.length) (hn : n = T.length)
    (hle : ∀ o,o≠O→(∀ ob,onm p.2 = some ob→o≠ob)→∀ cs,s.objs o = some cs→s1.objs o = some cs) (hle0 : s0.le s1) (hb : OBuf 1 s1 p.2 p.1.unm.length (p.1.unm.map intC)) (hO : s1.objs O = some (rowC cellsX (T.set i p) ++ rest)) (hrl : rest.length = (cap - T.length) * 5) (hcap : T.length≤cap) (h63 : cap < 2 ^ 63)
    (hnew : ∀ ob,onm p.2 = some ob→ob≠O∧s0.objs ob = none∧∀ j (hj : j < T.length),j≠i→onm (T[j]).2≠some ob) : TreeO s0 s1 (.osl O 0 5 n cap) (T.set i p):=by
  have hsep:=List.pairwise_iff_getElem.1 h.xs.sep
  have hget : ∀ j (hj : j < (T.set i p).length),(T.set i p)[j] = if i = j then p else T[j]'(by simpa using hj):=fun j hj=>List.getElem_set ..
  refine ⟨⟨fun q hq=>?_,fun q hq o ho=>?_,?_⟩,hle0,.inr ⟨O,cap,rest,by simp [hn],hO,by rw [row_len cellsX_len],by simpa using hrl,by simpa using hcap,h63⟩,h.newR,fun O' hO' q hq=>?_⟩
  · obtain ⟨j,hj,rfl⟩:=List.mem_iff_getElem.1 hq
    rw [hget]
    split
    · exact hb
    · rename_i hne
      have hj' : j < T.length:=by simpa using hj
      rcases h.xs.buf _ (List.getElem_mem hj') with h1 | ⟨o,c,rs,h1,h2,h3⟩
      · exact .inl h1
      · have ho : onm (T[j]).2 = some o:=by rw [h1]; rfl
        exact .inr ⟨o,c,rs,h1,hle o (fun e=>h.sepR O rfl _ (List.getElem_mem hj') (by rw [ho,e])) (fun ob hob e=>(hnew ob hob).2.2 j hj' (fun e=>hne e.symm) (by rw [ho,e])) _ h2,h3⟩
  · obtain ⟨j,hj,rfl⟩:=List.mem_iff_getElem.1 hq
    rw [hget] at ho
    split at ho
    · exact (hnew o ho).2.1
    · exact h.xs.new _ (List.getElem_mem _) o ho
  · rw [List.pairwise_iff_getElem]
    intro a b ha hb' hab o ho
    rw [hget] at ho ⊢
    have ha' : a < T.length:=by simpa using ha
    have hb'' : b < T.length:=by simpa using hb'
    by_cases ea : i = a
    · rw [if_pos ea] at ho
      rw [if_neg (by omega)]
      exact (hnew o ho).2.2 b hb'' (by omega)
    · rw [if_neg ea] at ho
      by_cases eb : i = b
      · rw [if_pos eb]
        intro e
        exact (hnew o e).2.2 a ha' (by omega) ho
      · rw [if_neg eb]
        exact hsep a b ha' hb'' hab o ho
  · obtain ⟨j,hj,rfl⟩:=List.mem_iff_getElem.1 hq
    cases hO'
    rw [hget]
    split
    · exact fun e=>(hnew O e).1 rfl
    · exact h.sepR O rfl _ (List.getElem_mem _)
end Go.AM
namespace Go.AM
namespace Sha
def add32 (a b : Nat) : Nat:=(a + b) % 4294967296
def rotr (x n : Nat) : Nat:=(x / 2 ^ n) ||| ((x * 2 ^ (32 - n)) % 4294967296)
def sig3 (x a b c : Nat) : Nat:=(rotr x a ^^^ rotr x b) ^^^ rotr x c
def sig2 (x a b c : Nat) : Nat:=(rotr x a ^^^ rotr x b) ^^^ (x / 2 ^ c)
def be32 (a b c d : Nat) : Nat:=((a * 256 + b) * 256 + c) * 256 + d
def word (c : List UInt8) (p : List Nat) (i : Nat) : Nat :=
  if i < 16 then be32 ((c.getD (4 * i) 0).toNat) ((c.getD (4 * i + 1) 0).toNat) ((c.getD (4 * i + 2) 0).toNat) ((c.getD (4 * i + 3) 0).toNat)
  else add32 (add32 (add32 (sig2 (p.getD (i - 2) 0) 17 19 10) (p.getD (i - 7) 0)) (sig2 (p.getD (i - 15) 0) 7 18 3)) (p.getD (i - 16) 0)
def sch (c : List UInt8) : Nat→List Nat
  | 0=>[]
  | n + 1=>sch c n ++ [word c (sch c n) n]
theorem sch_length (c : List UInt8) (n : Nat) : (sch c n).length = n:=by
  induction n with
  | zero=>rfl
  | succ n ih=>simp [sch,ih]
def t1 (e f g h k w : Nat) : Nat:=add32 (add32 (add32 (add32 h (sig3 e 6 11 25)) ((e &&& f) ^^^ ((4294967295 - e) &&& g))) k) w
def t2 (a b c : Nat) : Nat:=add32 (sig3 a 2 13 22) (((a &&& b) ^^^ (a &&& c)) ^^^ (b &&& c))
structure St where
  a : Nat
  b : Nat
  c : Nat
  d : Nat
  e : Nat
  f : Nat
  g : Nat
  h : Nat
def St.step (s : St) (k w : Nat) : St :=
  ⟨add32 (t1 s.e s.f s.g s.h k w) (t2 s.a s.b s.c),s.a,s.b,s.c,add32 s.d (t1 s.e s.f s.g s.h k w),s.e,s.f,s.g⟩
def St.add (s t : St) : St:=⟨add32 s.a t.a,add32 s.b t.b,add32 s.c t.c,add32 s.d t.d,add32 s.e t.e,add32 s.f t.f,add32 s.g t.g,add32 s.h t.h⟩
def St.list (s : St) : List Nat:=[s.a,s.b,s.c,s.d,s.e,s.f,s.g,s.h]
structure St.ok (s : St) : Prop where
  a : s.a < 4294967296
  b : s.b < 4294967296
  c : s.c < 4294967296
  d : s.d < 4294967296
  e : s.e < 4294967296
  f : s.f < 4294967296
  g : s.g < 4294967296
  h : s.h < 4294967296
def K : List Nat:=[
  0x428a2f98,0x71374491,0xb5c0fbcf,0xe9b5dba5,0x3956c25b,0x59f111f1,0x923f82a4,0xab1c5ed5,
  0xd807aa98,0x12835b01,0x243185be,0x550c7dc3,0x72be5d74,0x80deb1fe,0x9bdc06a7,0xc19bf174,
  0xe49b69c1,0xefbe4786,0x0fc19dc6,0x240ca1cc,0x2de92c6f,0x4a7484aa,0x5cb0a9dc,0x76f988da,
  0x983e5152,0xa831c66d,0xb00327c8,0xbf597fc7,0xc6e00bf3,0xd5a79147,0x06ca6351,0x14292967,
  0x27b70a85,0x2e1b2138,0x4d2c6dfc,0x53380d13,0x650a7354,0x766a0abb,0x81c2c92e,0x92722c85,
  0xa2bfe8a1,0xa81a664b,0xc24b8b70,0xc76c51a3,0xd192e819,0xd6990624,0xf40e3585,0x106aa070,
  0x19a4c116,0x1e376c08,0x2748774c,0x34b0bcb5,0x391c0cb3,0x4ed8aa4a,0x5b9cca4f,0x682e6ff3,
  0x748f82ee,0x78a5636f,0x84c87814,0x8cc70208,0x90befffa,0xa4506ceb,0xbef9a3f7,0xc67178f2]
def H0 : St:=⟨0x6a09e667,0xbb67ae85,0x3c6ef372,0xa54ff53a,0x510e527f,0x9b05688c,0x1f83d9ab,0x5be0cd19⟩
def rounds (w : List Nat) (s : St) : Nat→St
  | 0=>s
  | n + 1=>(rounds w s n).step (K.getD n 0) (w.getD n 0)
def mix (s : St) (c : List UInt8) : St:=s.add (rounds (sch c 64) s 64)
def blk (l : List UInt8) (i : Nat) : List UInt8:=(l.drop (64 * i)).take 64
def hash (l : List UInt8) : Nat→St
  | 0=>H0
  | n + 1=>mix (hash l n) (blk l n)
def zeros (n : Nat) : Nat:=(119 - n % 64) % 64
def lenB (n : Nat) : List UInt8:=[UInt8.ofNat (8 * n / 2 ^ 56),UInt8.ofNat (8 * n / 2 ^ 48),UInt8.ofNat (8 * n / 2 ^ 40),UInt8.ofNat (8 * n / 2 ^ 32),UInt8.ofNat (8 * n / 2 ^ 24),UInt8.ofNat (8 * n / 2 ^ 16),UInt8.ofNat (8 * n / 2 ^ 8),UInt8.ofNat (8 * n)]
def pad (l : List UInt8) : List UInt8:=l ++ (128 :: (List.replicate (zeros l.length) 0 ++ lenB l.length))
theorem pad_length (l : List UInt8) : (pad l).length = l.length + 9 + zeros l.length:=by simp [pad,lenB]; omega
theorem pad_mod (l : List UInt8) : (pad l).length % 64 = 0:=by rw [pad_length,zeros]; omega
def be (x : Nat) : List UInt8:=[UInt8.ofNat (x / 2 ^ 24),UInt8.ofNat (x / 2 ^ 16),UInt8.ofNat (x / 2 ^ 8),UInt8.ofNat x]
def St.bytes (s : St) : List UInt8:=be s.a ++ be s.b ++ be s.c ++ be s.d ++ be s.e ++ be s.f ++ be s.g ++ be s.h
def sum (l : List UInt8) : List UInt8:=(hash (pad l) ((pad l).length / 64)).bytes
theorem sum_length (l : List UInt8) : (sum l).length = 32:=rfl
theorem add32_lt (a b : Nat) : add32 a b < 4294967296:=Nat.mod_lt _ (by decide)
theorem rotr_lt {x : Nat} (n : Nat) (h : x < 4294967296) : rotr x n < 4294967296 :=
  Nat.or_lt_two_pow (n:=32) (Nat.lt_of_le_of_lt (Nat.div_le_self _ _) h) (Nat.mod_lt _ (by decide))
theorem be32_lt (a b c d : UInt8) : be32 a.toNat b.toNat c.toNat d.toNat < 4294967296:=by
  have:=a.toNat_lt; have:=b.toNat_lt; have:=c.toNat_lt; have:=d.toNat_lt
  simp only [be32]; omega
theorem word_lt (c : List UInt8) (p : List Nat) (i : Nat) : word c p i < 4294967296:=by
  unfold word
  split
  · exact be32_lt _ _ _ _
  · exact add32_lt _ _
theorem sch_lt (c : List UInt8) (n : Nat) : ∀ x ∈ sch c n,x < 4294967296:=by
  induction n with
  | zero=>intro x hx; simp [sch] at hx
  | succ n ih =>
    intro x hx
    simp only [sch,List.mem_append,List.mem_singleton] at hx
    rcases hx with hx | rfl
    · exact ih x hx
    · exact word_lt _ _ _
theorem sch_getD_lt (c : List UInt8) (n i : Nat) : (sch c n).getD i 0 < 4294967296:=by
  rw [List.getD_eq_getElem?_getD]
  cases h : (sch c n)[i]? with
  | none=>simp
  | some x=>exact sch_lt c n x (List.mem_of_getElem? h)
theorem H0_ok : H0.ok:=by constructor <;> decide
theorem St.ok.step {s : St} (h : s.ok) (k w : Nat) : (s.step k w).ok:=⟨add32_lt _ _,h.a,h.b,h.c,add32_lt _ _,h.e,h.f,h.g⟩
theorem St.ok.add (s t : St) : (s.add t).ok:=⟨add32_lt _ _,add32_lt _ _,add32_lt _ _,add32_lt _ _,add32_lt _ _,add32_lt _ _,add32_lt _ _,add32_lt _ _⟩
theorem rounds_ok {w : List Nat} {s : St} (h : s.ok) : ∀ n,(rounds w s n).ok
  | 0=>h
  | n + 1=>(rounds_ok h n).step _ _
theorem mix_ok (s : St) (c : List UInt8) : (mix s c).ok:=St.ok.add _ _
theorem hash_ok (l : List UInt8) : ∀ n,(hash l n).ok
  | 0=>H0_ok
  | n + 1=>mix_ok _ _
end Sha
end Go.AM
namespace Go.AM
namespace Mac
def key (k : List UInt8) : List UInt8:=if 64 < k.length then Sha.sum k else k
def fill (k : List UInt8) : List UInt8:=k ++ List.replicate (64 - k.length) 0
def turn (x : UInt8) (l : List UInt8) : List UInt8:=l.map fun c=>c ^^^ x
def inner (k l : List UInt8) : List UInt8:=Sha.sum (turn 54 (fill (key k)) ++ l)
def tag (k l : List UInt8) : List UInt8:=Sha.sum (turn 92 (fill (key k)) ++ inner k l)
theorem tag_len (k l : List UInt8) : (tag k l).length = 32:=Sha.sum_length _
def part (x : UInt8) (l : List UInt8) (i : Nat) : List UInt8:=turn x (l.take i) ++ l.drop i
theorem asetAll_front : ∀ (ds cs : List AV) (off : Nat),off + ds.length≤cs.length→asetAll cs off ds = cs.take off ++ ds ++ cs.drop (off + ds.length)
  | [],cs,off,h=>by simp [asetAll]
  | d :: ds,cs,off,h=>by
    rw [asetAll,asetAll_front ds (cs.set off d) (off + 1) (by simp at h ⊢; omega)]
    simp only [List.length_cons] at h
    have h1 : (cs.set off d).take (off + 1) = cs.take off ++ [d]:=by
      rw [List.take_succ_eq_append_getElem (by simp; omega),List.getElem_set_self,List.take_set_of_le (Nat.le_refl off)]
    have h2 : (cs.set off d).drop (off + 1 + ds.length) = cs.drop (off + (ds.length + 1)):=by
      rw [List.drop_set_of_lt (by omega)]
      congr 1
      omega
    rw [h1,h2,List.length_cons]
    simp
end Mac
end Go.AM
namespace Go.AM
open Go
theorem right_small {n : NodeV} (h : n.right) : n.name.length≤16∧n.parent.length≤32∧n.unm.length≤32:=by
  unfold NodeV.right at h
  split at h
  · rw [h]; simp [NodeV.nought]
  · split at h
    · obtain ⟨h1,h2,h3,h4⟩:=h
      have:=h3.2.2
      omega
    · split at h
      · obtain ⟨h1,h3,h4⟩:=h
        have:=h3.2.2
        have:=rising_len h4
        omega
      · exact h.elim
theorem rising_lt {l : List Int} (h : Rising l) {i j : Nat} (hij : i < j) (hj : j < l.length) : l.getD i 0 < l.getD j 0:=by
  induction j with
  | zero=>omega
  | succ j ih =>
    have h1:=(h (j + 1) hj).2.2 (by omega)
    rw [Nat.add_sub_cancel] at h1
    by_cases e : i = j
    · rw [e]; exact h1
    · have:=ih (by omega) (by omega)
      omega
theorem rising_sorted {l : List Int} (h : Rising l) : l.Pairwise (· < ·):=by
  rw [List.pairwise_iff_getElem]
  intro i j hi hj hij
  have:=rising_lt h hij hj
  simpa [List.getD,hi,hj] using this
end Go.AM
namespace Go.AM
open Go
theorem nd_set (t : List NodeV) (i : Nat) (x : NodeV) (j : Nat) : nd (t.set i x) j = if i = j∧i < t.length then x else nd t j:=by
  unfold nd
  simp only [List.getD_eq_getElem?_getD,List.getElem?_set]
  by_cases h : i = j
  · by_cases k : i < t.length
    · rw [if_pos h,if_pos k,if_pos ⟨h,k⟩]; rfl
    · rw [if_pos h,if_neg k,if_neg (fun q=>k q.2)]
      subst h
      rw [List.getElem?_eq_none (by omega)]
  · rw [if_neg h,if_neg (fun q=>h q.1)]
theorem nd_out {t : List NodeV} {i : Nat} (h : t.length≤i) : nd t i = NodeV.nought:=by
  unfold nd
  rw [List.getD_eq_getElem?_getD,List.getElem?_eq_none h]; rfl
theorem nd_more (t : List NodeV) (v j : Nat) : nd (moreT t v) j = nd t j:=by
  unfold moreT
  split
  · by_cases h : j < t.length
    · unfold nd
      rw [List.getD_eq_getElem?_getD,List.getD_eq_getElem?_getD,List.getElem?_append_left h]
    · rw [nd_out (t:=t) (by omega)]
      unfold nd
      rw [List.getD_eq_getElem?_getD,List.getElem?_append_right (by omega),List.getElem?_replicate]
      split <;> rfl
  · rfl
def insN (x : NodeV) (v : Nat) : NodeV:={ x with unm:=insU x.unm (v : Int) }
theorem putU_nd (v : Nat) (t : List NodeV) (up j : Nat) (h : up < t.length) : nd (putU v t up) j = if up = j∧(nd t j).kind = 2 then insN (nd t j) v else nd t j:=by
  unfold putU
  by_cases hk : (nd t up).kind = 2
  · rw [if_pos hk,nd_set]
    by_cases e : up = j
    · subst e
      rw [if_pos ⟨rfl,h⟩,if_pos ⟨rfl,hk⟩]; rfl
    · rw [if_neg (fun q=>e q.1),if_neg (fun q=>e q.1)]
  · rw [if_neg hk]
    by_cases e : up = j
    · subst e
      rw [if_neg (fun q=>hk q.2)]
    · rw [if_neg (fun q=>e q.1)]
theorem putsU_nd (v : Nat) : ∀ (l : List Nat) (t : List NodeV),l.Nodup→(∀ u ∈ l,u < t.length)→∀ j,nd (l.foldl (putU v) t) j = if j ∈ l∧(nd t j).kind = 2 then insN (nd t j) v else nd t j
  | [],t,_,_,j=>by simp
  | x :: l,t,hn,hl,j=>by
    have hn':=List.nodup_cons.1 hn
    have hx:=hl x List.mem_cons_self
    rw [List.foldl_cons,putsU_nd v l (putU v t x) hn'.2 (fun u hu=>by rw [putU_len]; exact hl u (List.mem_cons_of_mem _ hu)),putU_nd v t x j hx]
    by_cases e : x = j
    · subst e
      rw [if_neg (fun q=>hn'.1 q.1)]
      by_cases hk : (nd t x).kind = 2
      · rw [if_pos ⟨rfl,hk⟩,if_pos ⟨List.mem_cons_self,hk⟩]
      · rw [if_neg (fun q=>hk q.2),if_neg (fun q=>hk q.2)]
    · rw [if_neg (show ¬ (x = j∧(nd t j).kind = 2) from fun q=>e q.1)]
      have hm : j ∈ x :: l↔j ∈ l:=by
        rw [List.mem_cons]
        exact ⟨fun h=>h.resolve_left (fun q=>e q.symm),.inr⟩
      simp only [hm]
theorem path_nodup {leaf l : Nat} (hl : Fit l) (h : leaf < l) : (pathL leaf l).Nodup:=by
  obtain ⟨m,hm,rfl⟩:=hl.pow
  exact (by decide +kernel : ∀ m≤5,∀ leaf < 2 ^ m,(pathL leaf (2 ^ m)).Nodup) m hm leaf h
def pathChk : Bool:=(List.range 6).all fun m=>(List.range (2 ^ m)).all fun leaf=>(List.range (2 * 2 ^ m - 1)).all fun u=>!(decide (u % 2 = 1) && (decide (lo u≤leaf) && decide (leaf≤hi u))) || decide (u ∈ pathL leaf (2 ^ m))
theorem pathChk_true : pathChk = true:=by decide +kernel
theorem path_iff {leaf l : Nat} (hl : Fit l) (h : leaf < l) (u : Nat) : u ∈ pathL leaf l↔u < 2 * l - 1∧u % 2 = 1∧lo u≤leaf∧leaf≤hi u:=by
  refine ⟨path_mem hl h u,fun ⟨h1,h2,h3,h4⟩=>?_⟩
  obtain ⟨m,hm,rfl⟩:=hl.pow
  have k:=pathChk_true
  unfold pathChk at k
  rw [List.all_eq_true] at k
  have k1:=k m (List.mem_range.2 (by omega))
  rw [List.all_eq_true] at k1
  have k2:=k1 leaf (List.mem_range.2 h)
  rw [List.all_eq_true] at k2
  have k3:=k2 u (List.mem_range.2 h1)
  rw [decide_eq_true h2,decide_eq_true h3,decide_eq_true h4] at k3
  simpa using k3
theorem memI_iff {t : List NodeV} {L : Nat} (hL : lvs t = L) (i : Int) : memI t i↔0≤i∧i < (L : Int)∧(nd t (2 * i.toNat)).kind = 1:=by unfold memI; rw [hL]
theorem memN_iff {t : List NodeV} {L : Nat} (hL : lvs t = L) (i : Nat) : memI t (i : Int)↔i < L∧(nd t (2 * i)).kind = 1:=by
  rw [memI_iff hL,Int.toNat_natCast]
  exact ⟨fun h=>⟨by omega,h.2.2⟩,fun h=>⟨by omega,by omega,h.2⟩⟩
theorem rightT_iff {t : List NodeV} {L : Nat} (hL : Fit L) (hlen : t.length = 2 * L - 1) : rightT t ↔
    (∀ i,i < 2 * L - 1→(nd t i).right∧((nd t i).kind = 0∨((nd t i).kind = 1↔i % 2 = 0))∧∀ u ∈ (nd t i).unm,(lo i : Int)≤u∧u≤(hi i : Int)∧0≤u∧u < (L : Int)∧(nd t (2 * u.toNat)).kind = 1) ∧
    (∀ a b,a < b→b < L→(nd t (2 * a)).kind = 1→(nd t (2 * b)).kind = 1→(nd t (2 * b)).name≠(nd t (2 * a)).name) ∧
    (L = 1∨∃ j,L / 2≤j∧j < L∧(nd t (2 * j)).kind = 1):=by
  have hl:=lvs_of hL hlen
  have hb:=hL.le
  have hh : hlf t = L:=by unfold hlf; omega
  have hund : ∀ i,i < 2 * L - 1→undI (i : Int) = ((lo i : Int),(hi i : Int)):=by
    intro i hi'
    unfold undI
    rw [if_pos (by omega),Int.toNat_natCast]
  have hcnt : 0 < cntN (memI t) (L / 2) (L - L / 2)↔∃ j,L / 2≤j∧j < L∧(nd t (2 * j)).kind = 1:=by
    rw [cntN_pos]
    constructor
    · rintro ⟨j,h1,h2⟩
      have:=(memN_iff hl _).1 h2
      exact ⟨L / 2 + j,by omega,this.1,this.2⟩
    · rintro ⟨j,h1,h2,h3⟩
      refine ⟨j - L / 2,by omega,?_⟩
      rw [show L / 2 + (j - L / 2) = j by omega]
      exact (memN_iff hl _).2 ⟨h2,h3⟩
  unfold rightT
  rw [hl,hcnt]
  constructor
  · rintro ⟨_,h2,h3⟩
    refine ⟨fun i hi'=>?_,fun a b hab hbL ha hb'=>?_,h3⟩
    · obtain ⟨⟨k1,k2,k3⟩,_⟩:=h2 i (by omega)
      refine ⟨k1,k2,fun u hu=>?_⟩
      obtain ⟨q1,q2,q3⟩:=k3 u hu
      rw [hund i hi'] at q1 q2
      have:=(memI_iff hl u).1 q3
      exact ⟨q1,q2,this.1,this.2.1,this.2.2⟩
    · intro e
      have:=(h2 (2 * a) (by omega)).2 (by omega) (by rw [show 2 * a / 2 = a by omega]; exact (memN_iff hl a).2 ⟨by omega,ha⟩) b (by omega) (by omega)
      exact this ⟨(memN_iff hl b).2 ⟨hbL,hb'⟩,e⟩
  · rintro ⟨h1,h2,h3⟩
    refine ⟨by omega,fun i hi'=>⟨⟨?_,?_,?_⟩,?_⟩,h3⟩
    · exact (h1 i (by omega)).1
    · exact (h1 i (by omega)).2.1
    · intro u hu
      obtain ⟨q1,q2,q3,q4,q5⟩:=(h1 i (by omega)).2.2 u hu
      rw [hund i (by omega)]
      exact ⟨q1,q2,(memI_iff hl u).2 ⟨q3,q4,q5⟩⟩
    · intro he hm j hj hij ⟨hmj,hn⟩
      have h5:=(memN_iff hl _).1 hm
      have h6:=(memN_iff hl _).1 hmj
      rw [show 2 * (i / 2) = i by omega] at h5
      refine h2 (i / 2) j hij h6.1 (by rw [show 2 * (i / 2) = i by omega]; exact h5.2) h6.2 ?_
      rw [show 2 * (i / 2) = i by omega]
      exact hn
theorem rising_of {l : List Int} (h : l.Pairwise (· < ·)) (k : ∀ x ∈ l,0≤x∧x < 32) : Rising l:=by
  intro i hi
  refine okAt_of hi (k _ (List.getElem_mem hi)).1 (k _ (List.getElem_mem hi)).2 (fun h0=>?_)
  exact List.pairwise_iff_getElem.1 h (i - 1) i (by omega) hi (by omega)
theorem mem_insU (u : List Int) (v x : Int) : x ∈ insU u v↔x = v∨x ∈ u:=by
  unfold insU
  rw [List.mem_append,List.mem_cons]
  have : x ∈ u↔x ∈ u.take (u.countP (· < v))∨x ∈ u.drop (u.countP (· < v)):=by
    rw [← List.mem_append,List.take_append_drop]
  rw [this]
  constructor
  · rintro (h | h | h)
    · exact .inr (.inl h)
    · exact .inl h
    · exact .inr (.inr h)
  · rintro (h | h | h)
    · exact .inr (.inl h)
    · exact .inl h
    · exact .inr (.inr h)
theorem count_split (v : Int) : ∀ {u : List Int},u.Pairwise (· < ·)→(∀ x ∈ u.take (u.countP (· < v)),x < v)∧(∀ x ∈ u.drop (u.countP (· < v)),v≤x)
  | [],_=>by simp
  | a :: u,h=>by
    obtain ⟨h1,h2⟩:=List.pairwise_cons.1 h
    by_cases ha : a < v
    · have ih:=count_split v h2
      rw [List.countP_cons_of_pos (by simpa using ha),List.take_succ_cons,List.drop_succ_cons]
      refine ⟨fun x hx=>?_,ih.2⟩
      rw [List.mem_cons] at hx
      rcases hx with rfl | hx
      · exact ha
      · exact ih.1 x hx
    · have h0 : u.countP (· < v) = 0:=by
        rw [List.countP_eq_zero]
        intro x hx
        have:=h1 x hx
        simp; omega
      rw [List.countP_cons_of_neg (by simpa using ha),h0]
      refine ⟨by simp,fun x hx=>?_⟩
      simp only [List.drop_zero,List.mem_cons] at hx
      rcases hx with rfl | hx
      · omega
      · have:=h1 x hx
        omega
theorem insU_sorted {u : List Int} {v : Int} (h : u.Pairwise (· < ·)) (hv : v ∉ u) : (insU u v).Pairwise (· < ·):=by
  obtain ⟨h1,h2⟩:=count_split v h
  unfold insU
  rw [List.pairwise_append,List.pairwise_cons]
  have hs:=h
  rw [← List.take_append_drop (u.countP (· < v)) u,List.pairwise_append] at hs
  refine ⟨hs.1,⟨fun x hx=>?_,hs.2.1⟩,fun x hx y hy=>?_⟩
  · have:=h2 x hx
    have hne : v≠x:=fun e=>hv (by rw [e]; exact List.mem_of_mem_drop hx)
    omega
  · rw [List.mem_cons] at hy
    rcases hy with rfl | hy
    · exact h1 x hx
    · exact hs.2.2 x hx y hy
theorem insU_rising {u : List Int} {v : Nat} (h : Rising u) (hv : (v : Int) ∉ u) (h32 : v < 32) : Rising (insU u (v : Int)):=by
  refine rising_of (insU_sorted (rising_sorted h) hv) fun x hx=>?_
  rcases (mem_insU _ _ _).1 hx with rfl | hx
  · omega
  · exact rising_mem h hx
end Go.AM
