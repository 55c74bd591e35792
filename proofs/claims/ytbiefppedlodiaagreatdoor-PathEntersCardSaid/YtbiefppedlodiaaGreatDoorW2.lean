/- Contracts of functions, each walked once; each theorem states its conditions. -/
import Derived.Test.YtbiefppedlodiaaGreatDoorW1
import Derived.Test.YtbiefppedlodiaaGreatDoorAMp7
import Derived.Shelf.Slices.SearchI
import Derived.Shelf.Slices.Empties
import Derived.Sort.EveryDepth
import Derived.Shelf.Sort.AssemblyIn
import Derived.Lib.RowBridge
import Derived.Test.YtbiefppedlodiaaGreatDoorAMp6
import Derived.Test.YtbiefppedlodiaaGreatDoorAMp4
import Derived.Test.YtbiefppedlodiaaGreatDoorAMp3
import Derived.Test.YtbiefppedlodiaaGreatDoorAMp5
set_option linter.unusedSimpArgs false
set_option linter.unusedVariables false
open Nat renaming reduceLT → Na, reduceLeDiff → Nb, reduceEqDiff → Nc, reduceAdd → Nk, reduceMul → Nf, reducePow → Ng, reduceSub → Nh, reduceBEq → Nz
open Int renaming reduceLT → Za, reduceLE → Zb, reduceToNat → Zc
open And renaming intro → Ai
open Go.AM renaming ashift → Qa, aconv → Qb, aindexAddr → Qc, aindex → Qd, aslice → Qe, abuiltin → Qf, awp_reg_seq → wS, awp_reg_end → wE, awp_seq_k → wK, awp_cond_k → wC
open Go.AM.AV renaming cells → Qg, one → Qh
set_option maxRecDepth 100000
set_option maxHeartbeats 8000000
namespace Go.AM
open Go
def aQ {α : Type} (c : α→List AV) (l : List α) : List AV:=(l.map c).flatten
theorem ni {α : Type} {c : α→List AV} {k : Nat} (hk : ∀ a,(c a).length = k) {l : List α} {i : Nat} (h : i < l.length) : List.take k (List.drop (i * k) (aQ c l)) = c l[i]:=by
  have:=xc (sz:=k) (els:=l.map c) (i:=i) (by simpa using h) (by
    intro el yB;obtain ⟨p,_,rfl⟩:=List.mem_map.1 yB;exact hk p)
  unfold aQ;rw [this];simp
theorem cS {α : Type} {c : α→List AV} {k : Nat} (hk : ∀ a,(c a).length = k) (l : List α) : (aQ c l).length = l.length * k:=by
  induction l with
  | nil=>simp [aQ]
  | cons a l ih =>
    have : aQ c (a :: l) = c a ++ aQ c l:=rfl;rw [this,List.length_append,ih,hk,List.length_cons,Nat.succ_mul,Nat.add_comm]
theorem Ka {α : Type} {c : α→List AV} (l : List α) (a : α) : aQ c (l ++ [a]) = aQ c l ++ c a:=by simp [aQ]
def PS (n : Nat) : Prop:=2≤n∧n≤2305843009213693949
instance (n : Nat) : Decidable (PS n):=by unfold PS; infer_instance
structure kW where
  kind : Int
  leaf : Int
  name : List UInt8
  key : Nat
  init : Nat
  deriving DecidableEq
structure eb where
  iW : Nat
  text : List UInt8
  deriving DecidableEq
structure cu where
  key : Nat
  di : List eb
  deriving DecidableEq
structure dM where
  key : Nat
  parent : List UInt8
  steps : List cu
  deriving DecidableEq
structure cD where
  group : List UInt8
  gQ : Int
  BP : Int
  props : List kW
  vX : Bool
  path : dM
  BQ : List UInt8
  Fy : List UInt8
  deriving DecidableEq
def kW.cells (p : kW) : List AV:=[.v (.int .i64 p.kind),.v (.int .i64 p.leaf),aj p.name .any,.v (.int .u64 p.key),.v (.int .u64 p.init)]
def eb.cells (p : eb) : List AV:=[.v (.int .u64 p.iW),aj p.text .any]
def cu.cells (p : cu) : List AV:=[.v (.int .u64 p.key),.sl 2 p.di.length (aQ eb.cells p.di) .any]
def dM.cells (p : dM) : List AV:=[.v (.int .u64 p.key),aj p.parent .any,.sl 2 p.steps.length (aQ cu.cells p.steps) .any]
def cD.cells (c : cD) : List AV :=
  [aj c.group .any,.v (.int .i64 c.gQ),.v (.int .i64 c.BP),.sl 5 c.props.length (aQ kW.cells c.props) .any,.v (.bool c.vX),
   .v (.int .u64 c.path.key),aj c.path.parent .any,.sl 2 c.path.steps.length (aQ cu.cells c.path.steps) .any,aj c.BQ .any,aj c.Fy .any]
def kW.wf (p : kW) : Prop:=p.key < 2 ^ 64∧p.init < 2 ^ 64
def eb.wf (p : eb) : Prop:=p.iW < 2 ^ 64
def cu.wf (p : cu) : Prop:=p.key < 2 ^ 64∧(∀ x ∈ p.di,x.wf)∧p.di.length≤maxLen
def dM.wf (p : dM) : Prop:=p.key < 2 ^ 64∧(∀ x ∈ p.steps,x.wf)∧p.steps.length≤maxLen
def cD.wf (c : cD) : Prop:=(∀ x ∈ c.props,x.wf)∧c.path.wf∧c.props.length≤maxLen
abbrev W8 : Ty:=.int .u64
abbrev Rz : Ty:=.struct (.cons Bk (.cons Bk (.cons Cr (.cons W8 (.cons W8 .nil)))))
abbrev RA : Ty:=.struct (.cons W8 (.cons Cr .nil))
abbrev RB : Ty:=.struct (.cons W8 (.cons (.slice 2 RA) .nil))
abbrev RC : Ty:=.struct (.cons W8 (.cons Cr (.cons (.slice 2 RB) .nil)))
abbrev W9 : Ty:=.struct (.cons Cr (.cons Bk (.cons Bk (.cons (.slice 5 Rz) (.cons .bool (.cons RC (.cons Cr (.cons Cr .nil))))))))
def kW.right (p : kW) : Prop :=
  (p.kind = 1∧p.leaf = 0∧1≤p.name.length∧p.name.length≤16∧PS p.key∧PS p.init) ∨
  (p.kind = 2∧0≤p.leaf∧p.leaf < 32∧p.name.length = 0∧PS p.key∧p.init = 0) ∨
  (p.kind = 3∧0≤p.leaf∧p.leaf < 32∧p.name.length = 0∧p.key = 0∧p.init = 0)
def eb.right (p : eb) : Prop:=PS p.iW∧p.text.length = 48
def cu.right (p : cu) : Prop:=(∀ x ∈ p.di,x.right)∧PS p.key∧p.di.length≤32
def dM.right (p : dM) : Prop:=(∀ x ∈ p.steps,x.right)∧PS p.key∧(p.parent.length = 0∨p.parent.length = 32)∧p.steps.length≤5
def dM.none (p : dM) : Prop:=p.key = 0∧p.parent.length = 0∧p.steps.length = 0
def cD.FA (c : cD) : Prop:=(c.vX = true→c.path.right)∧(c.vX = false→c.path.none)
def cD.right (c : cD) : Prop :=
  (∀ x ∈ c.props,x.right)∧(1≤c.group.length∧c.group.length≤16)∧(0≤c.gQ∧c.gQ≤1048576)∧(0≤c.BP∧c.BP < 32)∧c.props.length≤16∧c.FA∧c.BQ.length = 32∧c.Fy.length = 32
instance (p : kW) : Decidable p.right:=by unfold kW.right; infer_instance
instance (p : eb) : Decidable p.right:=by unfold eb.right; infer_instance
instance (p : cu) : Decidable p.right:=by unfold cu.right; infer_instance
instance (p : dM) : Decidable p.right:=by unfold dM.right; infer_instance
instance (p : dM) : Decidable p.none:=by unfold dM.none; infer_instance
instance (c : cD) : Decidable c.FA:=by unfold cD.FA; infer_instance
instance (c : cD) : Decidable c.right:=by unfold cD.right; infer_instance
def aZ (t : List al) : AV:=.sl 5 t.length (aQ al.cells t) .any
def dS (t : List al) : Prop:=t.length≤2 ^ 61∧∀ n ∈ t,n.jk.length≤2 ^ 61∧n.key < 2 ^ 64
def nd (t : List al) (i : Nat) : al:=t.getD i al.iO
theorem tN {t : List al} {i : Nat} (h : i < t.length) : nd t i = t[i]:=by simp [nd,List.getD,h]
theorem dS.nd {t : List al} (h : dS t) (i : Nat) : (nd t i).jk.length≤2 ^ 61∧(nd t i).key < 2 ^ 64:=by
  by_cases hi : i < t.length
  · rw [tN hi]; exact h.2 _ (List.getElem_mem hi)
  · have : Go.AM.nd t i = al.iO:=(by simp [Go.AM.nd,List.getD,show t.length≤i by omega]);rw [this];exact ⟨by decide,by decide⟩
theorem dm {t : List al} {i : Nat} (h : i < t.length) : List.take 5 (List.drop (i * 5) (aQ al.cells t)) = (nd t i).cells:=by
  rw [tN h];exact ni (k:=5) (fun _=>rfl) h
def aU (t : List al) : Nat:=if Fit ((t.length + 1) / 2)∧t.length = 2 * ((t.length + 1) / 2) - 1 then (t.length + 1) / 2 else 0
theorem bT {t : List al} : aU t = 0∨(Fit (aU t)∧t.length = 2 * aU t - 1):=by
  unfold aU;split
  · rename_i h; exact .inr h
  · exact .inl rfl
theorem FB (t : List al) : aU t≤32:=by
  rcases bT (t:=t) with h | h
  · omega
  · exact h.1.le.2
theorem Kb {t : List al} {i : Nat} (h : i < aU t) : 2 * i < t.length:=by
  rcases bT (t:=t) with h0 | h0
  · omega
  · omega
def dW (t : List al) (i : Int) : Prop:=0≤i∧i < (aU t : Int)∧(nd t (2 * i.toNat)).kind = 1
instance (t : List al) (i : Int) : Decidable (dW t i):=by unfold dW; infer_instance
def cF (t : List al) (i : Int) : Prop:=0≤i∧2 * i < (t.length : Int)∧(nd t (2 * i.toNat)).kind = 1
instance (t : List al) (i : Int) : Decidable (cF t i):=by unfold cF; infer_instance
theorem xz {t : List al} (h : aU t≠0) (i : Int) : cF t i↔dW t i:=by
  rcases bT (t:=t) with h0 | h0
  · exact absurd h0 h
  · have:=h0.1.le;unfold cF dW;constructor <;> (rintro ⟨a,b,c⟩; exact ⟨a,by omega,c⟩)
def gD (P : Int→Prop) [DecidablePred P] (a : Nat) : Nat→Nat
  | 0=>0
  | k + 1=>gD P a k + if P ((a + k : Nat) : Int) then 1 else 0
theorem BR (P : Int→Prop) [DecidablePred P] (a : Nat) : ∀ k,gD P a k≤k
  | 0=>Nat.le_refl _
  | k + 1=>by
    have:=BR P a k;simp only [gD];split <;> omega
theorem qP {P Q : Int→Prop} [DecidablePred P] [DecidablePred Q] (h : ∀ i,P i↔Q i) (a : Nat) : ∀ k,gD P a k = gD Q a k
  | 0=>rfl
  | k + 1=>by simp only [gD,qP h a k,h]
def bZ (P : Nat→Bool) : Nat→Nat→Int
  | 0,_=>-1
  | k + 1,i=>if P i then (i : Int) else bZ P k (i + 1)
theorem jd (P : Nat→Bool) : ∀ k i,(bZ P k i = -1∧∀ j,i≤j→j < i + k→P j = false)∨(∃ j,i≤j∧j < i + k∧P j = true∧bZ P k i = (j : Int)∧∀ m,i≤m→m < j→P m = false)
  | 0,i=>.inl ⟨rfl,fun j h1 h2=>by omega⟩
  | k + 1,i=>by
    simp only [bZ];cases hp : P i with
    | true=>exact .inr ⟨i,Nat.le_refl _,by omega,hp,by simp,fun m h1 h2=>by omega⟩
    | false =>
      simp only [Bool.false_eq_true,if_false];rcases jd P k (i + 1) with ⟨h1,h2⟩ | ⟨j,h1,h2,h3,h4,h5⟩
      · refine .inl ⟨h1,fun j a b=>?_⟩;by_cases e : j = i
        · rw [e,hp]
        · exact h2 j (by omega) (by omega)
      · refine .inr ⟨j,by omega,by omega,h3,h4,fun m a b=>?_⟩;by_cases e : m = i
        · rw [e,hp]
        · exact h5 m (by omega) b
theorem tQ (P : Nat→Bool) (k i : Nat) : decide (0≤bZ P k i) = true↔∃ j,i≤j∧j < i + k∧P j = true:=by
  rw [decide_eq_true_iff];rcases jd P k i with ⟨h1,h2⟩ | ⟨j,h1,h2,h3,h4,h5⟩
  · rw [h1];constructor
    · intro h; omega
    · rintro ⟨j,a,b,c⟩; rw [h2 j a b] at c; cases c
  · rw [h4];exact ⟨fun _=>⟨j,h1,h2,h3⟩,fun _=>by omega⟩
def gE (t : List al) : Nat:=(t.length + 1) / 2
theorem xA {t : List al} {i : Nat} : i < gE t↔2 * i < t.length:=by unfold gE; omega
def nj (t : List al) (name : List UInt8) (a : Nat) : Int:=bZ (fun j=>decide (dW t j∧(nd t (2 * j)).name = name)) (gE t - a) a
def qQ (t : List al) (name : List UInt8) : Int:=bZ (fun j=>decide (cF t j∧(nd t (2 * j)).name = name)) (gE t) 0
def pd (t : List al) (i : Nat) : Prop :=
  (nd t i).right∧((nd t i).kind = 0∨((nd t i).kind = 1↔i % 2 = 0))∧∀ u ∈ (nd t i).jk,(kR (i : Int)).1≤u∧u≤(kR (i : Int)).2∧dW t u
instance (t : List al) (i : Nat) : Decidable (pd t i):=by unfold pd; infer_instance
def fN (t : List al) (i : Nat) : Prop:=pd t i∧(i % 2 = 0→dW t ((i / 2 : Nat) : Int)→∀ j,j < gE t→i / 2 < j→¬ (dW t (j : Int)∧(nd t (2 * j)).name = (nd t i).name))
def bw (t : List al) : Prop:=aU t≠0∧(∀ i,i < t.length→fN t i)∧(aU t = 1∨0 < gD (dW t) (aU t / 2) (aU t - aU t / 2))
instance (t : List al) (i : Nat) : Decidable (fN t i):=by unfold fN; infer_instance
instance (t : List al) : Decidable (bw t):=by unfold bw; infer_instance
theorem xB (P : Int→Bool) (l : List Int) : decide (0≤bZ (fun i=>P (l.getD i 0)) l.length 0) = l.any P:=by
  rw [Bool.eq_iff_iff,tQ,List.any_eq_true];constructor
  · rintro ⟨j,_,h2,h3⟩;have hj : j < l.length:=(by omega);refine ⟨l[j],List.getElem_mem hj,?_⟩;simpa [List.getD,hj] using h3
  · rintro ⟨x,hx,hp⟩;obtain ⟨j,hj,rfl⟩:=List.getElem_of_mem hx;exact ⟨j,Nat.zero_le _,by omega,by simpa [List.getD,hj] using hp⟩
theorem je {P : Nat→Bool} {k i : Nat} (h : P i = false) : bZ P (k + 1) i = bZ P k (i + 1):=by simp only [bZ,h]; rfl
theorem jf {P : Nat→Bool} {k i : Nat} (h : P i = true) : bZ P (k + 1) i = (i : Int):=by simp only [bZ,h]; rfl
theorem Kc {t : List al} {n : Nat} (h : Fit n) (hl : t.length = 2 * n - 1) : aU t = n:=by
  have:=h.le;unfold aU;rw [show (t.length + 1) / 2 = n by omega];exact if_pos ⟨h,hl⟩
theorem Kd {t : List al} (h : ∀ n,Fit n→t.length≠2 * n - 1) : aU t = 0:=by
  unfold aU;rw [if_neg];rintro ⟨a,b⟩;exact h _ a b
theorem NA {j : Nat} (h : j≤5) : Fit (2 ^ j):=(by decide : ∀ j≤5,Fit (2 ^ j)) j h
def sA (t : List al) (i : Nat) : Prop :=
  (nd t i).right∧((nd t i).kind = 0∨((nd t i).kind = 1↔i % 2 = 0))∧((nd t i).kind = 1→qQ t (nd t i).name = ((i / 2 : Nat) : Int))∧∀ u ∈ (nd t i).jk,(kR (i : Int)).1≤u∧u≤(kR (i : Int)).2∧cF t u
theorem uW {t : List al} (name : List UInt8) : (∃ j,j < gE t∧cF t (j : Int)∧(nd t (2 * j)).name = name∧qQ t name = (j : Int)∧∀ m,m < j→¬ (cF t (m : Int)∧(nd t (2 * m)).name = name))∨(qQ t name = -1∧∀ j,j < gE t→¬ (cF t (j : Int)∧(nd t (2 * j)).name = name)):=by
  rcases jd (fun (j : Nat)=>decide (cF t (j : Int)∧(nd t (2 * j)).name = name)) (gE t) 0 with ⟨h1,h2⟩ | ⟨j,h1,h2,h3,h4,h5⟩
  · exact .inr ⟨h1,fun j hj=>of_decide_eq_false (h2 j (Nat.zero_le _) (by omega))⟩
  · obtain ⟨h6,h7⟩:=of_decide_eq_true h3;exact .inl ⟨j,by omega,h6,h7,h4,fun m hm=>of_decide_eq_false (h5 m (Nat.zero_le _) hm)⟩
theorem DH {t : List al} (h0 : aU t≠0) : (∀ i,i < t.length→sA t i)↔(∀ i,i < t.length→fN t i):=by
  have hlen : t.length = 2 * aU t - 1:=(bT.resolve_left h0).2;have hm:=xz (t:=t) h0;have cL : ∀ i,sA t i→pd t i:=fun i ⟨a,b,_,d⟩=>⟨a,b,fun u hu=>⟨(d u hu).1,(d u hu).2.1,(hm u).1 (d u hu).2.2⟩⟩;constructor
  · intro h i hi;refine ⟨cL i (h i hi),fun he L8 j hj hij ⟨hmj,hnj⟩=>?_⟩;have h2j : 2 * j < t.length:=xA.1 hj;have Xa:=(h (2 * j) h2j).2.2.1 (by have:=hmj.2.2; rwa [Int.toNat_natCast] at this);rw [show 2 * j / 2 = j by omega] at Xa;rcases uW (t:=t) (nd t (2 * j)).name with ⟨k,_,_,_,h4,h5⟩ | ⟨h4,_⟩
    · rw [Xa] at h4;refine h5 (i / 2) (by omega) ⟨(hm _).2 L8,?_⟩;rw [show 2 * (i / 2) = i by omega,hnj]
    · rw [Xa] at h4;omega
  · intro h i hi;obtain ⟨⟨a,b,c⟩,_⟩:=h i hi;refine ⟨a,b,fun hk=>?_,fun u hu=>⟨(c u hu).1,(c u hu).2.1,(hm u).2 (c u hu).2.2⟩⟩;have he : i % 2 = 0:=by
      rcases b with b | b
      · omega
      · exact b.1 hk
    have fu : 2 * (i / 2) = i:=(by omega);have L8 : dW t ((i / 2 : Nat) : Int):=⟨by omega,by omega,by rw [Int.toNat_natCast,fu]; exact hk⟩;rcases uW (t:=t) (nd t i).name with ⟨k,h1,h2,h3,h4,h5⟩ | ⟨_,h5⟩
    · rw [h4];by_cases e : k = i / 2
      · rw [e]
      · exfalso;by_cases bI : k < i / 2
        · have hg:=(h (2 * k) (by omega)).2 (by omega) (by rw [show 2 * k / 2 = k by omega]; exact (hm _).1 h2) (i / 2) (by unfold gE; omega) (by omega);refine hg ⟨L8,?_⟩;rw [fu,h3]
        · exact h5 (i / 2) (by omega) ⟨(hm _).2 L8,by rw [fu]⟩
    · exact absurd ⟨(hm _).2 L8,by rw [fu]⟩ (h5 (i / 2) (by unfold gE; omega))
structure GI where
  leaf : Int
  name : List UInt8
  deriving DecidableEq
def GI.cells (x : GI) : List AV:=[.v (.int .i64 x.leaf),aj x.name .any]
theorem bw.len {t : List al} (h : bw t) : t.length = 2 * aU t - 1∧Fit (aU t):=by
  have h1:=(bT.resolve_left h.1);exact ⟨h1.2,h1.1⟩
theorem bw.nd {t : List al} (h : bw t) (i : Nat) : (nd t i).right:=by
  by_cases hi : i < t.length
  · exact (h.2.1 i hi).1.1
  · have : Go.AM.nd t i = al.iO:=(by simp [Go.AM.nd,List.getD,show t.length≤i by omega]);rw [this]; exact Bx
theorem Az {n : Nat} (h : n < 63) (hl : lv n = 0) : fV (n : Int) = none:=by unfold fV; rw [eA h,if_pos hl]
theorem uX {n l : Nat} (h : n < 63) (hl : lv n = l + 1) : fV (n : Int) = some (((n - 2 ^ l : Nat) : Int),((n + 2 ^ l : Nat) : Int))∧lv (n - 2 ^ l) = l∧lv (n + 2 ^ l) = l∧n + 2 ^ l < 63∧2 ^ l≤n∧2 ^ l≤32:=by
  have key : ∀ n < 63,lv n≠0→lv (n - 2 ^ (lv n - 1)) = lv n - 1∧lv (n + 2 ^ (lv n - 1)) = lv n - 1∧n + 2 ^ (lv n - 1) < 63∧2 ^ (lv n - 1)≤n∧2 ^ lv n / 2 = 2 ^ (lv n - 1)∧2 ^ (lv n - 1)≤32:=(by decide +kernel);obtain ⟨k1,k2,k3,k4,k5,k6⟩:=key n h (by omega);rw [hl] at k1 k2 k3 k4 k5 k6;simp only [Nat.add_sub_cancel] at k1 k2 k3 k4 k5 k6;refine ⟨?_,k1,k2,k3,k4,k6⟩;unfold fV;rw [eA h,if_neg (by omega),hl,k5];congr 2;omega
theorem NC {L n : Nat} (h : Fit L) (hn : n < 2 * L - 1) : n + 2 ^ lv n≤2 * L - 1∧n < 63:=by
  obtain ⟨m,hm,rfl⟩:=h.pow;exact (by decide +kernel : ∀ m≤5,∀ n < 2 * 2 ^ m - 1,n + 2 ^ lv n≤2 * 2 ^ m - 1∧n < 63) m hm n hn
theorem bw.span {t : List al} (h : bw t) {n : Nat} (hn : n < t.length) : n + 2 ^ lv n≤t.length∧n < 63:=by
  obtain ⟨h1,h2⟩:=h.len;rw [h1] at hn ⊢;exact NC h2 hn
def n9 (skip : List Int) (l : List Int) : List Int:=(l.filter fun u=>decide (u ∉ skip)).map fun u=>2 * u
def qe (skip : List Int) (N : al) (n : Nat) : List Int:=if (N.kind = 1∧((n / 2 : Nat) : Int) ∉ skip)∨N.kind = 2 then [(n : Int)] else []
def ly (t : List al) (skip : List Int) : Nat→Nat→List Int
  | 0,n=>qe skip (nd t n) n ++ n9 skip (nd t n).jk
  | l + 1,n=>if (nd t n).kind = 0 then ly t skip l (n - 2 ^ l) ++ ly t skip l (n + 2 ^ l) else qe skip (nd t n) n ++ n9 skip (nd t n).jk
theorem tR {N : al} (h : N.right) : N.jk.length≤32∧∀ u ∈ N.jk,0≤u∧u < 32:=by
  rcases pB h with hk | hk | hk
  · rw [(qI hk).1 h];exact ⟨by decide,(by intro u hu; cases hu)⟩
  · have:=((kq hk).1 h).2.2.2;rw [List.eq_nil_of_length_eq_zero this];exact ⟨by decide,(by intro u hu; cases hu)⟩
  · have:=((ks hk).1 h).2.2;exact ⟨qK this,fun u hu=>xo this hu⟩
theorem xC (skip l : List Int) : (n9 skip l).length≤l.length:=by
  unfold n9;rw [List.length_map];exact List.length_filter_le _ _
theorem H8 {skip l : List Int} {i : Nat} (h : i < l.length) : n9 skip (l.take (i + 1)) = n9 skip (l.take i) ++ if l[i] ∉ skip then [2 * l[i]] else []:=by
  unfold n9;rw [List.take_succ_eq_append_getElem h,List.filter_append,List.map_append];congr 1;by_cases hs : l[i] ∉ skip
  · rw [if_pos hs]; simp [hs]
  · rw [if_neg hs]; simp [hs]
theorem tS (skip : List Int) (N : al) (n : Nat) : (qe skip N n).length≤1:=by
  unfold qe; split <;> simp
theorem mw {t : List al} (hr : bw t) (skip : List Int) : ∀ l n,(ly t skip l n).length≤33 * 2 ^ l
  | 0,n=>by
    have h1:=tS skip (nd t n) n;have h2:=xC skip (nd t n).jk;have h3:=(tR (hr.nd n)).1;simp only [ly,List.length_append];omega
  | l + 1,n=>by
    have hp:=Nat.two_pow_pos l;have RD : 2 ^ (l + 1) = 2 ^ l + 2 ^ l:=(by rw [Nat.pow_succ]; omega);simp only [ly];split
    · have h1:=mw hr skip l (n - 2 ^ l);have h2:=mw hr skip l (n + 2 ^ l);rw [List.length_append];omega
    · have h1:=tS skip (nd t n) n;have h2:=xC skip (nd t n).jk;have h3:=(tR (hr.nd n)).1;rw [List.length_append];omega
def bG (t : List al) (x : Int) (skip : List Int) : List Int:=if 0≤x∧x < (t.length : Int)∧bw t then ly t skip (lv x.toNat) x.toNat else []
open Go Go.RowKit
variable {P : Program} {Γ : Nat→List AV} {G : Gh} {s : AS} {w : World} {N : Nat}
def uY : AV→Option Nat
  | .iv o _ _ _ _=>some o
  | _=>none
def fO (p : al × AV) : List AV:=[.v (.int .i64 p.1.kind),aj p.1.name .any,.v (.int .u64 p.1.key),aj p.1.parent .any,p.2]
theorem FC (p : al × AV) : (fO p).length = 5:=rfl
theorem pG (n : al) : n.cells.length = 5:=rfl
theorem mn.le {sz n : Nat} {x : AV} {cs : List AV} {s s' : AS} (h : mn sz s x n cs) (k : s.le s') : mn sz s' x n cs:=by
  rcases h with h | ⟨o,cap,rest,h1,h2,h3⟩
  · exact .inl h
  · exact .inr ⟨o,cap,rest,h1,k.av _ _ h2,h3⟩
theorem mn.l7 {sz n : Nat} {x : AV} {cs : List AV} {s : AS} {o : Nat} {ds : List AV} (h : mn sz s x n cs) (k : uY x≠some o) : mn sz (s.set o ds) x n cs:=by
  rcases h with h | ⟨o',cap,rest,rfl,h2,h3⟩
  · exact .inl h
  · exact .inr ⟨o',cap,rest,rfl,by rw [AS.ao _ (fun e=>k (by rw [e]; rfl))]; exact h2,h3⟩
theorem mn.ND {sz n : Nat} {x : AV} {cs : List AV} {s : AS} {o : Nat} (h : mn sz s x n cs) (k : uY x≠some o) : mn sz (s.drop o) x n cs:=by
  rcases h with h | ⟨o',cap,rest,rfl,h2,h3⟩
  · exact .inl h
  · exact .inr ⟨o',cap,rest,rfl,by rw [AS.pr,gF _ _ (fun e=>k (by rw [e]; rfl))]; exact h2,h3⟩
theorem mn.some {sz n : Nat} {x : AV} {cs : List AV} {s : AS} {o : Nat} (h : mn sz s x n cs) (k : uY x = some o) : ∃ ds,s.av o = some ds:=by
  rcases h with ⟨_,_,rfl | rfl | rfl⟩ | ⟨o',cap,rest,rfl,h2,h3⟩
  · cases k
  · cases k
  · cases k
  · cases k; exact ⟨_,h2⟩
theorem xD {sz : Nat} {sp : Sp} (h : sp = .full∨sp = .new) : (AV.sl sz 0 [] sp).aB (.sl sz 0 [] .any):=by
  intro G u hv;simp only [au] at hv ⊢;rcases hv with ⟨b,off,cap,vs,h1,h2,h3,h4,h5,h6⟩ | ⟨_,_,a,cap,h1,_⟩ | ⟨_,_,h1,_⟩
  · exact .inl ⟨b,off,cap,vs,h1,h2,h3,h4,h5,trivial⟩
  · exact .inr (.inl ⟨trivial,trivial,a,cap,h1,by simp⟩)
  · rcases h with rfl | rfl <;> cases h1
structure RF (s0 s : AS) (T : List (al × AV)) : Prop where
  buf : ∀ p ∈ T,mn 1 s p.2 p.1.jk.length (p.1.jk.map aM)
  new : ∀ p ∈ T,∀ o,uY p.2 = some o→s0.av o = none
  sep : T.Pairwise fun p q=>∀ o,uY p.2 = some o→uY q.2≠some o
structure nM (s0 s : AS) (X : AV) (T : List (al × AV)) : Prop where
  xs : RF s0 s T
  le : s0.le s
  row : mn 5 s X T.length (aQ fO T)
  NF : ∀ O,uY X = some O→s0.av O = none
  RG : ∀ O,uY X = some O→∀ p ∈ T,uY p.2≠some O
theorem AS.le_none {s s' : AS} (h : s.le s') {o : Nat} (k : s'.av o = none) : s.av o = none:=by
  cases hs : s.av o with
  | none=>rfl
  | some cs=>rw [h.av _ _ hs] at k; cases k
theorem nM.nil (s : AS) : nM s s bO [] :=
  ⟨⟨fun p hp=>absurd hp (List.not_mem_nil),fun p hp=>absurd hp (List.not_mem_nil),.nil⟩,.refl s,.inl ⟨rfl,rfl,.inl rfl⟩,(fun O h=>by cases h),(fun O h=>by cases h)⟩
theorem nM.push {s0 s : AS} {X : AV} {T : List (al × AV)} {p : al × AV} {ob cap : Nat} {rest : List AV} (h : nM s0 s X T) (hb : mn 1 s p.2 p.1.jk.length (p.1.jk.map aM))
    (h1 : ∀ o,uY p.2 = some o→s0.av o = none∧(∀ q ∈ T,uY q.2≠some o)∧uY X≠some o) (h2 : s.av ob = none∨∃ qH,X = .iv ob 0 5 T.length qH) (h3 : T.length + 1≤cap) (h4 : cap < 2 ^ 63) (h5 : rest.length = (cap - (T.length + 1)) * 5) :
    nM s0 (s.set ob (aQ fO T ++ fO p ++ rest)) (.iv ob 0 5 (T.length + 1) cap) (T ++ [p]):=by
  have Xb : s0.av ob = none:=by
    rcases h2 with h2 | ⟨qH,h2⟩
    · exact AS.le_none h.le h2
    · exact h.NF ob (by rw [h2]; rfl)
  have cW : ∀ q ∈ T ++ [p],uY q.2≠some ob:=by
    intro q hq e;rw [List.mem_append,List.mem_singleton] at hq;rcases h2 with h2 | ⟨qH,h2⟩
    · have : ∃ ds,s.av ob = some ds:=by
        rcases hq with hq | rfl
        · exact (h.xs.buf q hq).some e
        · exact hb.some e
      rw [h2] at this;obtain ⟨ds,hd⟩:=this;cases hd
    · have hX : uY X = some ob:=(by rw [h2]; rfl);rcases hq with hq | rfl
      · exact h.RG ob hX q hq e
      · exact (h1 ob e).2.2 hX
  refine ⟨⟨fun q hq=>?_,fun q hq o ho=>?_,?_⟩,AS.aE h.le Xb _,.inr ⟨ob,cap,rest,by rw [List.length_append]; rfl,by rw [AS.ae,Ka],?_,by rw [List.length_append]; exact h5,by rw [List.length_append]; exact h3,h4⟩,fun O hO=>?_,fun O hO q hq=>?_⟩
  · have JQ:=hq;rw [List.mem_append,List.mem_singleton] at hq;rcases hq with hq | rfl
    · exact (h.xs.buf q hq).l7 (cW q JQ)
    · exact hb.l7 (cW q JQ)
  · rw [List.mem_append,List.mem_singleton] at hq;rcases hq with hq | rfl
    · exact h.xs.new q hq o ho
    · exact (h1 o ho).1
  · rw [List.pairwise_append];refine ⟨h.xs.sep,List.pairwise_singleton _ _,fun a ha b MJ o ho=>?_⟩;rw [List.mem_singleton] at MJ;subst MJ;intro e;exact (h1 o e).2.1 a ha ho
  · exact cS FC _
  · cases hO; exact Xb
  · cases hO; exact cW q hq
theorem H9 {s0 : AS} {O : Nat} {rest : List AV} (S6 : s0.av O = none) (x : AV) : ∀ (B : List (al × AV)) (A : List al) (s : AS),RF s0 s B→s0.le s→(∀ p ∈ B,uY p.2≠some O)→s.av O = some (aQ al.cells A ++ aQ fO B ++ rest) →
    ∃ s',cw Γ s x s' x∧s'.av O = some (aQ al.cells (A ++ B.map (·.1)) ++ rest)∧s0.le s':=by
  intro B;induction B with
  | nil =>
    intro A s _ hle _ hO;refine ⟨s,.refl x,?_,hle⟩;simpa [aQ] using hO
  | cons p B ih =>
    intro A s hx hle cW hO;have RH : aQ al.cells A ++ aQ fO (p :: B) ++ rest = (aQ al.cells A ++ [.v (.int .i64 p.1.kind),aj p.1.name .any,.v (.int .u64 p.1.key),aj p.1.parent .any]) ++ p.2 :: (aQ fO B ++ rest):=by
      simp [aQ,fO]
    rw [RH] at hO;have PT : (aQ al.cells A ++ [.v (.int .i64 p.1.kind),aj p.1.name .any,.v (.int .u64 p.1.key),aj p.1.parent .any]) ++ aH p.1.jk .any :: (aQ fO B ++ rest) = aQ al.cells (A ++ [p.1]) ++ aQ fO B ++ rest:=by
      simp [aQ,al.cells]
    have Xc:=List.pairwise_cons.1 hx.sep;have hp : p ∈ p :: B:=List.mem_cons_self;have DI : ∀ s' : AS,(∀ q ∈ B,mn 1 s' q.2 q.1.jk.length (q.1.jk.map aM))→RF s0 s' B:=fun s' h=>⟨h,fun q hq=>hx.new q (List.mem_cons_of_mem _ hq),Xc.2⟩;rcases hx.buf p hp with ⟨h0,ta,hv⟩ | ⟨o,cap,rs,hv,ho,eV,tw,A9,CJ⟩
    · have hw : p.2.aB (aH p.1.jk .any):=by
        have hu : p.1.jk = []:=List.eq_nil_of_length_eq_zero h0;rw [hu];rcases hv with hv | hv | hv
        · rw [hv]; exact AV.aI
        · rw [hv]; exact xD (.inl rfl)
        · rw [hv]; exact xD (.inr rfl)
      have h1:=cw.cells (Γ:=Γ) x hO hw;rw [PT] at h1;obtain ⟨s',k1,k2,k3⟩:=ih (A ++ [p.1]) _ (DI _ fun q hq=>(hx.buf q (List.mem_cons_of_mem _ hq)).l7 (cW q (List.mem_cons_of_mem _ hq))) (AS.aE hle S6 _) (fun q hq=>cW q (List.mem_cons_of_mem _ hq)) (AS.ae _ _ _);refine ⟨s',h1.trans k1,?_,k3⟩;simpa using k2
    · have hpo : uY p.2 = some o:=(by rw [hv]; rfl);have hOo : O≠o:=fun e=>cW p hp (by rw [hpo,e]);rw [hv] at hO;have h1:=cw.inner (Γ:=Γ) x hO ho hOo eV;have e : (AV.sl 1 p.1.jk.length (p.1.jk.map aM) .any) = aH p.1.jk .any:=rfl;rw [e,PT] at h1;obtain ⟨s',k1,k2,k3⟩:=ih (A ++ [p.1]) _ (DI _ fun q hq=>((hx.buf q (List.mem_cons_of_mem _ hq)).ND (Xc.1 q hq o hpo)).l7 (cW q (List.mem_cons_of_mem _ hq))) (AS.aE (AS.rE hle (hx.new p hp o hpo)) S6 _) (fun q hq=>cW q (List.mem_cons_of_mem _ hq)) (AS.ae _ _ _);refine ⟨s',h1.trans k1,?_,k3⟩;simpa using k2
open Go Go.RowKit Go.Shelf Go.Proofs
theorem aN.drewN (h : aN Γ G s w) : ∀ q,aN Γ G s (w.drewN q)
  | 0=>h
  | q + 1=>(aN.drewN h q).drew
open Go Go.RowKit Go.Shelf Go.Proofs Go.Sort
theorem aN.grow (h : aN Γ G s w) (os : Array Obj) : aN Γ G s (Go.Sort.grow w os):=by
  refine h.ext ?_;exact (Below.refl _ _).grown (row:=none) ⟨rfl,rfl,rfl,by simp,fun i hi _=>by simp [Go.Sort.grow,Array.getElem?_append,hi]⟩ (Nat.le_refl _) (fun i e=>by cases e)
theorem FD {ρ : Ren} (L : Lays.n189 P ρ) {o cap : Nat} {l : List Int} {rest : List AV} (hl : l.length < 4611686018427387904) (ho : s.av o = some (l.map aM ++ rest)) :
    ai P Γ (ρ.f 189) [.iv o 0 1 l.length cap] s (fun r s'=>r = .v (.tuple #[])∧s' = s.set o ((l.mergeSort fun x y=>decide (x≤y)).map aM ++ rest)):=by
  intro G w vs hsr hv;simp only [aq] at hv;obtain ⟨u,us,rfl,hx,rfl⟩:=hv;simp only [au] at hx;obtain ⟨b,Dj,rfl,hn⟩:=hx;obtain ⟨b',vs,q1,q2,q3,q4⟩:=hsr.av o _ ho;rw [Dj] at q1;cases q1;have Zo:=q2.take (l.map aM).length;rw [List.take_left] at Zo;have Zo:=aq.Gz Zo;have hH : Holds (Value.int .i64) w b 0 l.toArray:=by
    intro j hj;have jZ : j < l.length:=(by simpa using hj);rw [Nat.zero_add];have : vs[j]? = some (Value.int .i64 l.toArray[j]!):=by
      have h1 : (vs.take (l.map aM).length)[j]? = some (Fl l[j]):=(by rw [Zo]; simp [jZ]);rw [List.getElem?_take] at h1;split at h1
      · rw [h1]; simp [Fl,jZ]
      · cases h1
    exact ⟨(q4 j _ this).1,(q4 j _ this).2.1⟩
  refine (calls_of_every_depth fun D=>AnyS.slices_Sort_int_in L D b 0 cap l w hH (hsr.cK o b Dj) hl).mono ?_;rintro e w' ⟨rfl,n,os,rfl⟩;rw [Go.Lib.putRow_eq_setCells (Value.int .i64) w b 0 l.toArray _ n hH (by simp)];have sZ : (l.mergeSort fun x y=>decide (x≤y)).length = l.length:=(by simp);generalize (l.mergeSort fun x y=>decide (x≤y)) = m at sZ ⊢;obtain ⟨_,_,f3⟩:=kc (hsr.drewN n) ho Dj (off:=0) (ds:=m.map aM) (us:=m.map Fl) (by simp; omega) (aq.ints _);have ha:=oI (m.map aM) [] (l.map aM ++ rest) (by simp; omega);simp only [List.nil_append,List.length_nil,List.length_map,sZ] at ha;rw [show (l.map aM ++ rest).drop l.length = rest by rw [List.drop_append_of_le_length (by simp)]; simp] at ha;rw [ha] at f3;exact ⟨G,.v (.tuple #[]),_,_,rfl,.refl G,aN.grow f3 os,by simp [au],rfl,rfl⟩
end Go.AM
namespace Go.Proofs.YtbiefppedlodiaaGreatDoor
open Go Go.AM Go.Proofs Tryz
variable {Γ : Nat→List AV}
def xaO : Go.Shelf.Ren:=⟨fun | 125=>194 | 128=>229 | 129=>230 | 189=>159 | 215=>248 | 216=>226 | 257=>193 | 294=>220 | 295=>221 | 296=>222 | 297=>223 | 298=>224 | 299=>225 | 300=>227 | 301=>228 | 328=>243 | 329=>244 | 330=>245 | 331=>246 | 332=>247 | 343=>254 | n=>n,fun | 28=>24 | 46=>185 | 51=>214 | 53=>29 | 131=>119 | 182=>239 | 183=>240 | 218=>257 | 222=>260 | 228=>266 | 229=>58 | n=>n,fun n=>n⟩
theorem Xd : Lays.n189 prog xaO where
  mixed:=by kernel_rfl
  f125:=(func194).trans (congrArg some (by kernel_rfl))
  f128:=(func229).trans (congrArg some (by kernel_rfl))
  f129:=(func230).trans (congrArg some (by kernel_rfl))
  f189:=(func159).trans (congrArg some (by kernel_rfl))
  f215:=(func248).trans (congrArg some (by kernel_rfl))
  f216:=(func226).trans (congrArg some (by kernel_rfl))
  f257:=(func193).trans (congrArg some (by kernel_rfl))
  f294:=(func220).trans (congrArg some (by kernel_rfl))
  f295:=(func221).trans (congrArg some (by kernel_rfl))
  f296:=(func222).trans (congrArg some (by kernel_rfl))
  f297:=(func223).trans (congrArg some (by kernel_rfl))
  f298:=(func224).trans (congrArg some (by kernel_rfl))
  f299:=(func225).trans (congrArg some (by kernel_rfl))
  f300:=(func227).trans (congrArg some (by kernel_rfl))
  f301:=(func228).trans (congrArg some (by kernel_rfl))
  f328:=(func243).trans (congrArg some (by kernel_rfl))
  f329:=(func244).trans (congrArg some (by kernel_rfl))
  f330:=(func245).trans (congrArg some (by kernel_rfl))
  f331:=(func246).trans (congrArg some (by kernel_rfl))
  f332:=(func247).trans (congrArg some (by kernel_rfl))
  f343:=(func254).trans (congrArg some (by kernel_rfl))
  t0:=underlying0
  a0:=isAgg0
  z0:=sizeOf0
  v0:=zeroValue0
  t3:=underlying3
  a3:=isAgg3
  z3:=sizeOf3
  v3:=zeroValue3
  t4:=underlying4
  a4:=isAgg4
  z4:=sizeOf4
  v4:=zeroValue4
  t5:=underlying5
  a5:=isAgg5
  z5:=sizeOf5
  v5:=zeroValue5
  t9:=underlying9
  a9:=isAgg9
  z9:=sizeOf9
  v9:=zeroValue9
  t28:=underlying24
  a28:=isAgg24
  z28:=sizeOf24
  v28:=zeroValue24
  t46:=underlying185
  a46:=isAgg185
  z46:=sizeOf185
  v46:=zeroValue185
  t51:=underlying214
  a51:=isAgg214
  z51:=sizeOf214
  v51:=zeroValue214
  t53:=underlying29
  a53:=isAgg29
  z53:=sizeOf29
  v53:=zeroValue29
  t131:=underlying119
  a131:=isAgg119
  z131:=sizeOf119
  v131:=zeroValue119
  t182:=underlying239
  a182:=isAgg239
  z182:=sizeOf239
  v182:=zeroValue239
  t183:=underlying240
  a183:=isAgg240
  z183:=sizeOf240
  v183:=zeroValue240
  t218:=underlying257
  a218:=isAgg257
  z218:=sizeOf257
  v218:=zeroValue257
  t222:=underlying260
  a222:=isAgg260
  z222:=sizeOf260
  v222:=zeroValue260
  t228:=underlying266
  a228:=isAgg266
  z228:=sizeOf266
  v228:=zeroValue266
  t229:=underlying58
  a229:=isAgg58
  z229:=sizeOf58
  v229:=zeroValue58
theorem Ke {o cap : Nat} {l : List Int} {rest : List AV} {s : AS} (hl : l.length < 4611686018427387904) (ho : s.av o = some (l.map aM ++ rest)) :
    ai prog Γ 159 [.iv o 0 1 l.length cap] s (fun r s'=>r = .v (.tuple #[])∧s' = s.set o ((l.mergeSort fun x y=>decide (x≤y)).map aM ++ rest)) :=
  FD Xd hl ho
def NG (s s' : AS) (r : AV) (l : List Int) : Prop:=mn 1 s' r l.length (l.map aM)∧(l = []→r = bO)∧(∀ o,uY r = some o→s.av o = none)∧s.le s'
def xaP (s : AS) (o1 : Nat) (l : List Int) (s' : AS) : Prop:=∃ x,s'.av o1 = some [x]∧NG s s' x l∧uY x≠some o1
theorem vz {gf : FuncId} {b6 : List AV} {l : List Int} (IG : af prog gf = true) (IH : uQ prog Γ gf b6 (l.map fun v=>[aM v])) (hl : l.length≤2 ^ 40) (s : AS) :
  ai prog Γ 192 [bO,.pI gf b6] s (fun r s'=>NG s s' r l):=by
 refine xj func192 rfl ntmps192 results192 (by simp) ?_;unfold bO;refine pz ?_;intro K hK;refine jM ?_;intro o1 h1;refine hK _ _ ?_;clear hK K;refine p7 (by decide) ?_;intro K hK;refine jR hK ?_;clear hK K;refine ⟨gf,b6,l.map fun v=>[aM v],fun i s'=>xaP s o1 (l.take i) s',by simp only [aL,aF,bz,List.getD_cons_zero,List.getD_cons_succ,Nc,↓reduceIte],IG,IH,by simp,?_,?_,?_⟩
 ·refine ⟨bO,by simp [AS.set,bO],⟨.inl ⟨by simp,by simp,.inl rfl⟩,fun _=>rfl,by simp [bO,uY],AS.aE (AS.le.refl s) h1 _⟩,by simp [bO,uY]⟩
 ·rintro i x s1 hx ⟨b,Dj,⟨rp,rK,kE,hle⟩,cW⟩;obtain ⟨v,hv,rfl⟩ : ∃ v,l[i]? = some v∧x = [aM v]:=by
   rw [List.getElem?_map] at hx;cases hh : l[i]? with
   | none=>rw [hh] at hx; cases hx
   | some v=>rw [hh] at hx; cases hx; exact ⟨v,rfl,rfl⟩
  have hi : i < l.length:=(List.getElem?_eq_some_iff.1 hv).1;have hlen : (l.take i).length = i:=(by simp; omega);have ln : b.one = true:=by
   rcases rp with ⟨_,_,rfl | rfl | rfl⟩ | ⟨_,_,_,rfl,_⟩ <;> rfl
  simp only [yS];refine jC ?_;refine ⟨rfl,ag ?_⟩;refine vr rfl (by decide) ?_;intro ops;refine jN @Dj ?_;rw [hlen] at rp;refine ⟨_,fun G a w hr=>kO (n:=i) (m:=1) (cs:=(l.take i).map aM) (ds:=[aM v]) (e:=3) (z:=[.v (.int .i64 0)]) rfl underlying24 (by simp only [↓DN,Qa,Qb,Qc,Qd,Qe,Qf,Qg,Qh,reduceCtorEq,↓reduceIte,Na,Nb,Nc,Nk,Nf,Ng,Nh,Za,Zb,Zc,TT]; try rfl) (by simp only [↓DN,Qa,Qb,Qc,Qd,Qe,Qf,Qg,Qh,reduceCtorEq,↓reduceIte,Na,Nb,Nc,Nk,Nf,Ng,Nh,Za,Zb,Zc,TT]; try rfl) (by rw [T.c3]; decide) (by rw [T.c3]; rfl) (by rw [T.c3]; simp only [↓DN,Qa,Qb,Qc,Qd,Qe,Qf,Qg,Qh,reduceCtorEq,↓reduceIte,Na,Nb,Nc,Nk,Nf,Ng,Nh,Za,Zb,Zc,TT,im,aL,aF,Nc,↓reduceIte]; rfl) (by decide) (by rw [T.b3]; omega) (by omega) rfl (by rw [T.c3]; simpa only [aL,aF,Nc,↓reduceIte] using rp) hr.eval hr.st,?_⟩;rw [T.c3];rintro r s4 ⟨ob,cap,rest,rfl,gB,CJ,tw,RI,rfl⟩;simp only [aL,aF,Nc,↓reduceIte] at RI;have RJ : o1≠ob:=by
   rintro rfl;rcases RI with h | ⟨qH,rfl⟩
   ·rw [Dj] at h; cases h
   ·exact cW rfl
  have PU : s.av ob = none:=by
   rcases RI with h | ⟨qH,rfl⟩
   ·exact AS.le_none hle h
   ·exact kE ob rfl
  have dN : (l.take i).map aM ++ [aM v] = (l.take (i + 1)).map aM:=by
   rw [List.take_add_one,hv];simp
  rw [dN];have Zp : (s1.set ob ((l.take (i + 1)).map aM ++ rest)).av o1 = some [b]:=by
   rw [AS.ao _ RJ];exact Dj
  refine jN @Zp ?_;refine ⟨_,AS.ae _ _ _,⟨.inr ⟨ob,cap,rest,by rw [show (l.take (i + 1)).length = i + 1 by simp; omega],?_,by simp,by rw [show (l.take (i + 1)).length = i + 1 by simp; omega]; exact tw,by rw [show (l.take (i + 1)).length = i + 1 by simp; omega]; exact gB,CJ⟩,?_,?_,AS.aE (AS.aE hle PU _) h1 _⟩,?_⟩
  ·rw [AS.ao _ RJ.symm,AS.ae]
  ·intro h;have:=congrArg List.length h;rw [List.length_take,List.length_nil] at this;omega
  ·intro o h;simp only [uY,Option.some.injEq] at h;rw [← h];exact PU
  ·simp only [uY,ne_eq,Option.some.injEq];exact RJ.symm
 ·rintro s2 ⟨x,ZY,SQ,-⟩;rw [List.length_map,List.take_length] at SQ;refine jB @ZY ?_;refine jI ?_;exact ⟨_,_,AV.aB.refl _,AS.le.refl _,SQ⟩
theorem zc {gf : FuncId} {b6 : List AV} {l : List Int} (IG : af prog gf = true) (IH : uQ prog Γ gf b6 (l.map fun v=>[aM v])) (hl : l.length≤2 ^ 40) (s : AS) :
  ai prog Γ 158 [.pI gf b6] s (fun r s'=>NG s s' r l):=by
 refine aa func158 rfl ntmps158 results158 (by simp) ?_;refine jA ?_;refine jQ fun K hK=>?_;refine ad (vz IG IH hl _) ?_;rintro r s2 h2;refine jR hK ?_;clear hK K;refine jI ?_;exact ⟨_,_,AV.aB.refl _,AS.le.refl _,h2⟩
theorem xE (s : AS) : ai prog Γ 230 [.v (.int .u64 0)] s (fun r s'=>(∃ k : Int,r = .v (.int .i64 k))∧s' = s):=by
 refine aa func230 rfl ntmps230 results230 (by simp) ?_;refine jA ?_;refine wK fun K hK=>?_;refine jA ?_;refine jF ?_;refine ab ?_;refine hK _ _ ?_;clear hK K;refine wK fun K hK=>?_;refine jA ?_;refine jF ?_;refine ab ?_;refine hK _ _ ?_;clear hK K;refine wK fun K hK=>?_;refine jA ?_;refine jF ?_;refine ab ?_;refine hK _ _ ?_;clear hK K;refine jA ?_;refine jI ?_;exact ⟨_,_,AV.aB.refl _,AS.le.refl _,⟨_,rfl⟩,rfl⟩
theorem BS (s : AS) : ai prog Γ 194 [.v (.int .u64 0)] s (fun r s'=>(∃ k : Int,r = .v (.int .i64 k))∧s' = s):=by
 refine aa func194 rfl ntmps194 results194 (by simp) ?_;refine jA ?_;refine wK fun K hK=>?_;refine jF ?_;refine ab ?_;refine hK _ _ ?_;clear hK K;refine jQ fun K hK=>?_;refine ad (xE _) ?_;rintro r s2 ⟨⟨k,rfl⟩,rfl⟩;refine jR hK ?_;clear hK K;refine jI ?_;exact ⟨_,_,AV.aB.refl _,AS.le.refl _,⟨_,rfl⟩,rfl⟩
theorem BT (s : AS) : ai prog Γ 220 [bO,.v (.int .i64 0),.v (.int .i64 0)] s (fun r s'=>r = .dX []∧s' = s):=by
 refine aa func220 rfl ntmps220 results220 (by simp) ?_;refine jA ?_;refine ag ?_;refine aC (fun E s'=>E 2 = .v (.int .i64 0)∧E 6 = .v (.int .i64 1)∧s' = s) (fun _ _=>0) ⟨rfl,rfl,rfl⟩ ?_;rintro E s' ⟨e2,e6,rfl⟩ -
 refine wK fun K2 aV=>?_;refine jB (Ai @e2 @e6) ?_;refine jF ?_;refine aA ?_;simp only [az,ar,if_true];simp only [b8,bt,bD,cU,List.toList_toArray,↓ba]; try simp only [UP,DF,Nc,↓reduceIte,DT]
 exact jW ⟨rfl,rfl⟩
theorem BU (k : Int) (s : AS) : ai prog Γ 193 [bO,.v (.int .i64 0),.v (.int .i64 0),.v (.int .i64 k)] s (fun r s'=>r = .dX []∧s' = s):=by
 refine aa func193 rfl ntmps193 results193 (by simp) ?_;unfold bO;refine jA ?_;refine jA ?_;refine ag ?_;refine aC (fun E s'=>E 0 = .v (.slice none 0 0)∧E 1 = .v (.int .i64 0)∧E 2 = .v (.int .i64 0)∧s' = s) (fun _ _=>0) ⟨rfl,rfl,rfl,rfl⟩ ?_;rintro E s' ⟨e0,e1,e2,rfl⟩ -
 refine ag ?_;refine jB (Ai @e1 @e2) ?_;refine wK fun K2 aV=>?_;refine jB (Ai (show dC .i64 0 0 = (0 : Int) from rfl) (show (decide ((0 : Int)≤12)) = true from rfl)) ?_;refine jE ?_;refine jS (Ai @e0 (Ai @e1 @e2)) fun K hK=>?_;refine ad (BT _) ?_;rintro r s2 ⟨rfl,rfl⟩;refine jR hK ?_;clear hK K;refine aW ?_;simp only [az,ar];simp only [b8,bt,bD,cU,List.toList_toArray,↓ba]; try simp only [UP,DF,Nc,↓reduceIte,DT]
 exact jW ⟨rfl,rfl⟩
theorem zd (s : AS) : ai prog Γ 159 [bO] s (fun r s'=>r = .dX []∧s' = s):=by
 refine aa func159 rfl ntmps159 results159 (by simp) ?_;unfold bO;refine jA ?_;refine jT fun K hK=>?_;refine ad (BS _) ?_;rintro r s2 ⟨⟨k,rfl⟩,rfl⟩;refine jM ?_;refine ad (BU k _) ?_;rintro r s3 ⟨rfl,rfl⟩;refine jR hK ?_;clear hK K;simp only [b8,bt,bD,cU,List.toList_toArray,↓ba]; try simp only [UP,DF,Nc,↓reduceIte,DT]
 exact jW ⟨rfl,rfl⟩
theorem BV {gf : FuncId} {b6 : List AV} {l : List Int} (IG : af prog gf = true) (IH : uQ prog Γ gf b6 (l.map fun v=>[aM v])) (hl : l.length≤2 ^ 40) (s : AS) :
  ai prog Γ 111 [.pI gf b6] s (fun r s'=>NG s s' r (l.mergeSort fun x y=>decide (x≤y))):=by
 refine aa func111 rfl ntmps111 results111 (by simp) ?_;refine jA ?_;refine jQ fun K hK=>?_;refine ad (zc IG IH hl _) ?_;rintro r s2 ⟨rp,rK,kE,hle⟩;rcases List.eq_nil_or_concat l with rfl | ⟨l',v,HQ⟩
 ·obtain rfl:=rK rfl;refine jR hK ?_;clear hK K;refine jK (zd _) ?_;rintro s3 rfl;refine jA ?_;refine jI ?_;exact jW ⟨by simpa using rp,fun _=>rfl,kE,hle⟩
 ·have wZ : 0 < l.length:=(by rw [HQ]; simp);have sZ : (l.mergeSort fun x y=>decide (x≤y)).length = l.length:=(by simp);rcases rp with ⟨h0,_,_⟩ | ⟨o,cap,rest,rfl,ho,eV,tw,A9,CJ⟩
  ·omega
  ·refine jR hK ?_;clear hK K;refine jK (Ke (by omega) ho) ?_;rintro s3 rfl;refine jA ?_;refine jI ?_;have hn : s.av o = none:=kE o rfl;refine ⟨_,_,AV.aB.refl _,AS.le.refl _,.inr ⟨o,cap,rest,by rw [sZ],AS.ae _ _ _,by simp,by rw [sZ]; exact tw,by rw [sZ]; exact A9,CJ⟩,?_,kE,AS.aE hle hn _⟩;intro h;rw [h] at sZ;simp only [List.length_nil] at sZ;omega
end Go.Proofs.YtbiefppedlodiaaGreatDoor
namespace Go.AM
open Go Go.RowKit
def cl (n : Nat) : Nat:=if n < p9 n then p9 n + hf (p9 n) else p9 n - hf (p9 n)
theorem As {n l : Nat} (hl : Fit l) (h : n < 2 * l - 1) (hr : n≠l - 1) : p9 n < 63∧lv (p9 n)≠0∧hf (p9 n)≤p9 n∧(n < p9 n↔p9 n - hf (p9 n) = n)∧cl n < 2 * l - 1:=by
  obtain ⟨m,hm,rfl⟩:=hl.pow;exact ((by decide +kernel : ∀ m≤5,∀ n < 2 * 2 ^ m - 1,n = 2 ^ m - 1∨(p9 n < 63∧lv (p9 n)≠0∧hf (p9 n)≤p9 n∧(n < p9 n↔p9 n - hf (p9 n) = n)∧cl n < 2 * 2 ^ m - 1)) m hm n h).resolve_left hr
theorem Kf {u : Nat} (hu : u < 63) (h0 : lv u≠0) (hh : hf u≤u) : fV (u : Int) = some (((u - hf u : Nat) : Int),((u + hf u : Nat) : Int)):=by
  unfold fV;rw [eA hu,if_neg h0];simp only [hf] at hh ⊢;simp only [Option.some.injEq,Prod.mk.injEq];omega
theorem xx {leaf l : Nat} (hl : Fit l) (h : leaf < l) {i : Nat} (hi : i < (aD leaf l).length) : nodeAt leaf l i < 2 * l - 1∧nodeAt leaf l i≠l - 1∧p9 (nodeAt leaf l i) = (aD leaf l).getD i 0:=by
  obtain ⟨m,hm,rfl⟩:=hl.pow;exact (by decide +kernel : ∀ m≤5,∀ leaf < 2 ^ m,∀ i < (aD leaf (2 ^ m)).length,nodeAt leaf (2 ^ m) i < 2 * 2 ^ m - 1∧nodeAt leaf (2 ^ m) i≠2 ^ m - 1∧p9 (nodeAt leaf (2 ^ m) i) = (aD leaf (2 ^ m)).getD i 0) m hm leaf h i hi
def cC (leaf l : Nat) : List Nat:=(List.range (aD leaf l).length).map fun i=>cl (nodeAt leaf l i)
end Go.AM
namespace Go.Proofs.YtbiefppedlodiaaGreatDoor
open Go Go.AM Go.Proofs Tryz
variable {Γ : Nat→List AV}
theorem xF (hG : Γ 3 = eS.map nH) (n l : Nat) (hl : Fit l) (hn : n < 2 * l - 1) (hr : n≠l - 1) (s : AS) : ai prog Γ 105 [.v (.int .i64 n),.v (.int .i64 l)] s
  (fun r s'=>r = .dX [.v (.int .i64 ((cl n : Nat) : Int)),.v (.bool true)]∧s' = s):=by
 refine aa func105 rfl ntmps105 results105 (by simp) ?_;have HQ:=hl.le;obtain ⟨u1,u2,u3,u4,u5⟩:=As hl hn hr;have En:=fun s=>lW (Γ:=Γ) hG n l hl hn s;rw [show qL n l = some (p9 n) from if_neg hr] at En;simp only [Option.getD_some,Option.isSome_some] at En;have vA:=fun s=>lT (Γ:=Γ) hG (p9 n : Int) (by omega) s;have hle:=fun s=>gS (Γ:=Γ) hG (p9 n : Int) (by omega) s;rw [Kf u1 u2 u3] at vA hle;unfold cl;generalize p9 n = u at *
 refine jA ?_;refine jK (En _) ?_;rintro s1 rfl;refine wK fun K hK=>?_;refine jA ?_;refine jF ?_;refine ab ?_;refine hK _ _ ?_;clear hK K;refine wK fun K hK=>?_;by_cases h : n < u
 ·refine jB (decide_eq_true (show ((n : Nat) : Int) < (u : Int) by omega)) ?_;refine jE ?_;refine jK (vA _) ?_;rintro s2 rfl;rw [if_pos h];exact jJ
 ·refine jB (decide_eq_false (show ¬ ((n : Nat) : Int) < (u : Int) by omega)) ?_;refine jF ?_;refine ab ?_;refine hK _ _ ?_;clear hK K;refine jK (hle _) ?_;rintro s2 rfl;rw [if_neg h];exact jJ
theorem uZ (l : List UInt8) (sp : Sp) (ha : sp.isAny = false) (s : AS) (hl : l.length≤2 ^ 45) : ai prog Γ 90 [aj l sp] s (fun r s'=>r = aj l .any∧s' = s):=by
 refine aa func90 rfl ntmps90 results90 (by simp) ?_;unfold aj;refine jA ?_;refine wK fun K hK=>?_;refine jB (Ai @ha @and_false) ?_;refine jF ?_;refine ab ?_;refine hK _ _ ?_;clear hK K;by_cases h0 : l.length = 0
 ·have ta : l = []:=List.eq_nil_of_length_eq_zero h0;subst ta;refine jA ?_;refine aW ?_;simp only [↓DN,Qa,Qb,Qc,Qd,Qe,Qf,Qg,Qh,reduceCtorEq,↓reduceIte,Na,Nb,Nc,Nk,Nf,Ng,Nh,Za,Zb,Zc,TT,b8,bt,bD,cU,ea];exact ⟨_,s,AV.bQ,AS.le.refl s,rfl,rfl⟩
 ·refine jS @h0 fun K hK=>?_;refine ⟨by omega,by omega,fun t ht=>hK _ _ ?_⟩;clear hK K;refine aW ?_;simp only [↓DN,Qa,Qb,Qc,Qd,Qe,Qf,Qg,Qh,reduceCtorEq,↓reduceIte,Na,Nb,Nc,Nk,Nf,Ng,Nh,Za,Zb,Zc,TT,b8,bt,bD,cU,ea];exact ⟨_,s,AV.bQ,AS.bq (AS.le.refl s) ht 0,rfl,rfl⟩
theorem BW (s0 s : AS) (p : Nat) (l : List UInt8) (n size : Nat) (hn : n < 2 ^ 64) (hs : size≤8) (hl : l.length + 8≤2 ^ 45) (h : vR s0 s p l false) :
  ai prog Γ 133 [.ptr p 0,.v (.int .u64 n),.v (.int .i64 size)] s (fun r s'=>r = .dX []∧vR s0 s' p (l ++ be size n) false):=by
 refine aa func133 rfl ntmps133 results133 (by simp) ?_;refine jA ?_;refine ag ?_;refine aC (fun E s1=>∃ (i : Int) (l' : List UInt8),E 6 = .v (.int .i64 i)∧-1≤i∧i < size∧E 0 = .ptr p 0∧E 1 = .v (.int .u64 n)∧vR s0 s1 p l' false∧l' ++ be (i + 1).toNat n = l ++ be size n)
  (fun E _=>match E 6 with | .v (.int _ i)=>(i + 1).toNat | _=>0) ?_ ?_
 ·refine ⟨size - 1,l,?_,by omega,by omega,by simp [aF,bz],by simp [aF,bz],h,by congr 2; omega⟩;simp [aF,cf (show -9223372036854775808≤(size : Int) - 1∧(size : Int) - 1≤9223372036854775807 by omega)]
 ·rintro E1 s1 ⟨i,l',h6,WI,fu,h0,h1,hp,HQ⟩ -
  obtain ⟨x,hx,hb⟩:=hp.obj;refine wK fun K hK=>?_;by_cases hi : 0≤i
  ·refine jB (Ai @h6 (Ai @h0 (Ai @h1 (Ai @hx (decide_eq_true hi))))) ?_;refine jE ?_;refine ab ?_;refine hK _ _ ?_;clear hK K;refine wK fun K hK=>?_;refine ag ?_;have hmul : iF .i64 8 i = 8 * i:=dJ (by omega);have Xe : ¬ (8 * i < 0):=(by omega);obtain ⟨j,rfl⟩:=Int.eq_ofNat_of_zero_le hi;have hj : j < 8:=(by omega);have eh:=MB n j hj;have Mg : be ((j : Int) + 1).toNat n = UInt8.ofNat (n / 2 ^ (8 * j)) :: be j n:=by
    rw [show ((j : Int) + 1).toNat = j + 1 from by omega]; rfl
   have hlen : l'.length≤l.length + size:=by
    have:=congrArg List.length HQ;simp at this;omega
   have oZ : dC .i64 (j : Int) 1 = (j : Int) - 1:=cf (by omega);have bX : ∀ (E2 : Env) (s2 : AS),E2 6 = .v (.int .i64 j)→E2 0 = .ptr p 0→E2 1 = .v (.int .u64 n)→vR s0 s2 p (l' ++ [UInt8.ofNat (n / 2 ^ (8 * j))]) false→K E2 s2:=by
    intro E2 s2 e6 e0 e1 Ew;refine hK _ _ ?_;clear hK K;refine jD (Ai @e6 @oZ) ?_;refine ⟨⟨(j : Int) - 1,_,rfl,by omega,by omega,e0,e1,Ew,?_⟩,?_⟩
    ·rw [← HQ,Mg];simp
    ·simp only [h6,aF,↓reduceIte];omega
   clear hK;rcases hb with ⟨rfl,ta⟩ | ⟨t,e,rfl,ht,lh⟩
   ·subst ta;refine fe T.mixed [4,11,14] (by kernel_rfl) ?_;intro K hK;simp only [↓DM,bY,DX,Nz,↓DN,Qa,Qb,Qc,Qd,Qe,Qf,Qg,Qh,reduceCtorEq,↓reduceIte,Na,Nb,Nc,Nk,Nf,Ng,Nh,Za,Zb,Zc,TT,h6,h0,h1,hx,bO,hmul,Xe,List.replicate_succ];intro t ht;refine hK _ _ (bX _ _ h6 h0 h1 ?_);rw [eh];exact hp.one ht _
   ·refine fe T.mixed [4,11,14] (by kernel_rfl) ?_;intro K hK;simp only [↓DM,bY,DX,Nz,↓DN,Qa,Qb,Qc,Qd,Qe,Qf,Qg,Qh,reduceCtorEq,↓reduceIte,Na,Nb,Nc,Nk,Nf,Ng,Nh,Za,Zb,Zc,TT,h6,h0,h1,hx,aj,hmul,Xe,ht,List.replicate_succ];refine ⟨by omega,by omega,hK _ _ (bX _ _ h6 h0 h1 ?_)⟩;rw [eh];exact hp.more lh [_] rfl rfl
  ·have fX : i = -1:=(by omega);subst fX;refine jB (Ai @h6 (Ai @h0 (Ai @h1 @hx))) ?_;refine jF ?_;refine aA ?_;simp only [az,ar,if_true,b8,bt,bD,ea,List.toList_toArray];refine ⟨_,s1,AV.aB.refl _,AS.le.refl _,rfl,?_⟩;have : l' = l ++ be size n:=(by simpa [be] using HQ);rw [← this];exact hp
theorem FE (s0 s : AS) (p : Nat) (l : List UInt8) (n size : Int) (hs : 0≤size∧size≤8) (h : vR s0 s p l true) :
  ai prog Γ 133 [.ptr p 0,.v (.int .u64 n),.v (.int .i64 size)] s (fun r s'=>r = .dX []∧vR s0 s' p l true):=by
 refine aa func133 rfl ntmps133 results133 (by simp) ?_;obtain ⟨x,hx,hb⟩:=h.obj;have oZ : dC .i64 size 1 = size - 1:=cf (by omega);refine jB @oZ ?_;refine ag ?_;refine aC (fun E s1=>E 6 = .v (.int .i64 (size - 1))∧E 0 = .ptr p 0∧s1 = s) (fun _ _=>0) ?_ ?_
 ·exact ⟨by simp [aF],by simp [aF,bz],rfl⟩
 ·rintro E1 s1 ⟨h6,h0,rfl⟩ -
  refine wK fun K hK=>?_;by_cases hi : 0≤size - 1
  ·refine jB (Ai @h6 (Ai @h0 (Ai @hx (decide_eq_true hi)))) ?_;refine jF ?_;refine aA ?_;simp only [az,ar,if_true,b8,bt,bD,ea,List.toList_toArray];exact ⟨_,s1,AV.aB.refl _,AS.le.refl _,rfl,h⟩
  ·refine jB (Ai @h6 (Ai @h0 (Ai @hx (decide_eq_false hi)))) ?_;refine jF ?_;refine aA ?_;simp only [az,ar,if_true,b8,bt,bD,ea,List.toList_toArray];exact ⟨_,s1,AV.aB.refl _,AS.le.refl _,rfl,h⟩
theorem xG (s0 s : AS) (p : Nat) (st : List UInt8 × Bool) (n size : Nat) (hn : n < 2 ^ 64) (hs : size≤8) (hl : st.1.length + 8≤2 ^ 45) (h : fI s0 s p st) :
  ai prog Γ 133 [.ptr p 0,.v (.int .u64 n),.v (.int .i64 size)] s (fun r s'=>r = .dX []∧fI s0 s' p (dQ size n st)):=by
 obtain ⟨l,b⟩:=st;cases b
 ·exact BW s0 s p l n size hn hs hl h
 ·exact FE s0 s p l n size (by omega) h
theorem pH (s : AS) : ai prog Γ 31 [] s (fun r s'=>∃ p,r = .ptr p 0∧fI s s' p ([],false)):=by
 refine aa func31 rfl ntmps31 results31 (by simp) ?_;refine jA ?_;refine wS fun K hK=>?_;simp only [↓DN,Qa,Qb,Qc,Qd,Qe,Qf,Qg,Qh,reduceCtorEq,↓reduceIte,Na,Nb,Nc,Nk,Nf,Ng,Nh,Za,Zb,Zc,TT,Array.toList_empty];intro p hp;refine hK _ _ ?_;refine aW ?_;simp only [↓DN,Qa,Qb,Qc,Qd,Qe,Qf,Qg,Qh,reduceCtorEq,↓reduceIte,Na,Nb,Nc,Nk,Nf,Ng,Nh,Za,Zb,Zc,TT,b8,bt,bD,cU,ea];exact ⟨_,_,AV.aB.refl _,AS.le.refl _,p,rfl,AS.aE (AS.le.refl s) hp _,hp,_,AS.ae _ _ _,.inl ⟨rfl,rfl⟩⟩
theorem jg (s0 s : AS) (p : Nat) (st : List UInt8 × Bool) (n : Int) (size : Nat) (hn : -9223372036854775808≤n∧n≤9223372036854775807) (hs : size≤8) (hl : st.1.length + 8≤2 ^ 45) (h : fI s0 s p st) :
  ai prog Γ 135 [.ptr p 0,.v (.int .i64 n),.v (.int .i64 size)] s (fun r s'=>r = .dX []∧fI s0 s' p (bd size n st)):=by
 refine aa func135 rfl ntmps135 results135 (by simp) ?_;obtain ⟨x,hx,hb⟩:=h.obj;refine wK fun K hK=>?_;have hmul : iF .i64 8 (size : Int) = 8 * size:=dJ (by omega);have Xe : ¬ (8 * (size : Int) < 0):=(by omega);by_cases h0 : n < 0
 ·refine jB (decide_eq_true h0) ?_;refine jE ?_;refine jB @hx ?_;refine aW ?_;simp only [az,b8,bt,bD,ea,List.toList_toArray];refine jW ⟨rfl,?_⟩;have : bd size n st = (st.1,true):=(by unfold bd; rw [if_neg (by omega)]);rw [this];exact h.bad hx hb true
 ·by_cases h1 : 2 ^ (8 * size)≤n
  ·refine jB (Ai (decide_eq_false h0) (Ai @hmul (Ai @Xe (Ai (zZ n size (by omega) (by omega)) (decide_eq_true h1))))) ?_;refine jE ?_;refine jB @hx ?_;refine aW ?_;simp only [az,b8,bt,bD,ea,List.toList_toArray];refine jW ⟨rfl,?_⟩;have : bd size n st = (st.1,true):=(by unfold bd; rw [if_neg (by omega)]);rw [this];exact h.bad hx hb true
  ·refine jB (Ai (decide_eq_false h0) (Ai @hmul (Ai @Xe (Ai (zZ n size (by omega) (by omega)) (decide_eq_false h1))))) ?_;refine jF ?_;refine ab ?_;refine hK _ _ ?_;clear hK K;obtain ⟨m,rfl⟩:=Int.eq_ofNat_of_zero_le (Int.not_lt.1 h0);have Xf : cB .u64 (m : Int) = m:=fT m (by omega);refine jU @Xf fun K hK=>?_;refine ad (xG s0 s p st m size (by omega) hs hl h) ?_;rintro r s' ⟨rfl,hp⟩;refine jR hK ?_;clear hK K;simp only [b8,bt,bD,ea,List.toList_toArray];refine jW ⟨rfl,?_⟩;have : bd size m st = dQ size m st:=(by unfold bd; rw [if_pos (by omega)]; rfl);rw [this];exact hp
theorem fk (s0 s : AS) (p : Nat) (st : List UInt8 × Bool) (n : Int) (hn : -9223372036854775808≤n∧n≤9223372036854775807) (hl : st.1.length + 8≤2 ^ 45) (h : fI s0 s p st) :
  ai prog Γ 88 [.ptr p 0,.v (.int .i64 n)] s (fun r s'=>r = .dX []∧fI s0 s' p (bd 1 n st)):=by
 refine aa func88 rfl ntmps88 results88 (by simp) ?_;refine jT fun K hK=>?_;refine ad (jg s0 s p st n 1 hn (by omega) hl h) ?_;rintro r s' ⟨rfl,hp⟩;refine jR hK ?_;clear hK K;simp only [b8,bt,bD,cU,List.toList_toArray,↓ba]; try simp only [UP,DF,Nc,↓reduceIte,DT]
 exact jW ⟨rfl,hp⟩
theorem BX (s0 s : AS) (p : Nat) (st : List UInt8 × Bool) (n : Int) (hn : -9223372036854775808≤n∧n≤9223372036854775807) (hl : st.1.length + 8≤2 ^ 45) (h : fI s0 s p st) :
  ai prog Γ 145 [.ptr p 0,.v (.int .i64 n)] s (fun r s'=>r = .dX []∧fI s0 s' p (bd 2 n st)):=by
 refine aa func145 rfl ntmps145 results145 (by simp) ?_;refine jT fun K hK=>?_;refine ad (jg s0 s p st n 2 hn (by omega) hl h) ?_;rintro r s' ⟨rfl,hp⟩;refine jR hK ?_;clear hK K;simp only [b8,bt,bD,cU,List.toList_toArray,↓ba]; try simp only [UP,DF,Nc,↓reduceIte,DT]
 exact jW ⟨rfl,hp⟩
theorem sB (s0 s : AS) (p : Nat) (st : List UInt8 × Bool) (n : Int) (hn : -9223372036854775808≤n∧n≤9223372036854775807) (hl : st.1.length + 8≤2 ^ 45) (h : fI s0 s p st) :
  ai prog Γ 219 [.ptr p 0,.v (.int .i64 n)] s (fun r s'=>r = .dX []∧fI s0 s' p (bd 4 n st)):=by
 refine aa func219 rfl ntmps219 results219 (by simp) ?_;refine jT fun K hK=>?_;refine ad (jg s0 s p st n 4 hn (by omega) hl h) ?_;rintro r s' ⟨rfl,hp⟩;refine jR hK ?_;clear hK K;simp only [b8,bt,bD,cU,List.toList_toArray,↓ba]; try simp only [UP,DF,Nc,↓reduceIte,DT]
 exact jW ⟨rfl,hp⟩
theorem kj (s0 s : AS) (p : Nat) (st : List UInt8 × Bool) (n : Nat) (hn : n < 2 ^ 64) (hl : st.1.length + 8≤2 ^ 45) (h : fI s0 s p st) :
  ai prog Γ 86 [.ptr p 0,.v (.int .u64 n)] s (fun r s'=>r = .dX []∧fI s0 s' p (dQ 8 n st)):=by
 refine aa func86 rfl ntmps86 results86 (by simp) ?_;refine jT fun K hK=>?_;refine ad (xG s0 s p st n 8 hn (by omega) hl h) ?_;rintro r s' ⟨rfl,hp⟩;refine jR hK ?_;clear hK K;simp only [b8,bt,bD,cU,List.toList_toArray,↓ba]; try simp only [UP,DF,Nc,↓reduceIte,DT]
 exact jW ⟨rfl,hp⟩
theorem sC (s0 s : AS) (p : Nat) (st : List UInt8 × Bool) (b : AV) (m : List UInt8) (hb : yL b m) (hl : st.1.length + m.length≤2 ^ 45) (h : fI s0 s p st) :
  ai prog Γ 175 [.ptr p 0,b] s (fun r s'=>r = .dX []∧fI s0 s' p (dR m st)):=by
 obtain ⟨l,bad⟩:=st;obtain ⟨x,hx,Kg⟩:=h.obj;refine aa func175 rfl ntmps175 results175 (by simp) ?_;cases bad
 ·refine jB @hx ?_;refine jE ?_;have Xg : dR m (l,false) = (l ++ m,false):=rfl;by_cases hm : m.length = 0
  ·have tc : m = []:=List.eq_nil_of_length_eq_zero hm;subst tc;have e : (l ++ [],false) = (l,false):=(by simp);rw [Xg,e];rcases Kg with ⟨rfl,ta⟩ | ⟨t,e,rfl,ht,lh⟩
   ·simp only at ta;subst ta;rcases hb with ⟨rfl,_⟩ | ⟨sp,rfl⟩
    ·refine wE fun K hK=>?_;simp only [↓DN,Qa,Qb,Qc,Qd,Qe,Qf,Qg,Qh,reduceCtorEq,↓reduceIte,Na,Nb,Nc,Nk,Nf,Ng,Nh,Za,Zb,Zc,TT,hx,bO,aj,hm];refine hK _ _ ?_;clear hK K;simp only [b8,bt,bD,cU,List.toList_toArray,↓ba]; try simp only [UP,DF,Nc,↓reduceIte,DT]
     exact ⟨_,_,AV.aB.refl _,AS.le.refl _,rfl,h.bad hx (.inl ⟨rfl,rfl⟩) false⟩
    ·refine wE fun K hK=>?_;simp only [↓DN,Qa,Qb,Qc,Qd,Qe,Qf,Qg,Qh,reduceCtorEq,↓reduceIte,Na,Nb,Nc,Nk,Nf,Ng,Nh,Za,Zb,Zc,TT,hx,bO,aj,hm];refine hK _ _ ?_;clear hK K;simp only [b8,bt,bD,cU,List.toList_toArray,↓ba]; try simp only [UP,DF,Nc,↓reduceIte,DT]
     exact ⟨_,_,AV.aB.refl _,AS.le.refl _,rfl,h.bad hx (.inl ⟨rfl,rfl⟩) false⟩
   ·rcases hb with ⟨rfl,_⟩ | ⟨sp,rfl⟩
    ·refine wE fun K hK=>?_;simp only [↓DN,Qa,Qb,Qc,Qd,Qe,Qf,Qg,Qh,reduceCtorEq,↓reduceIte,Na,Nb,Nc,Nk,Nf,Ng,Nh,Za,Zb,Zc,TT,hx,bO,aj,hm];refine hK _ _ ?_;clear hK K;simp only [b8,bt,bD,cU,List.toList_toArray,↓ba]; try simp only [UP,DF,Nc,↓reduceIte,DT]
     exact ⟨_,_,AV.aB.refl _,AS.le.refl _,rfl,h.bad hx (.inr ⟨t,e,rfl,ht,lh⟩) false⟩
    ·refine wE fun K hK=>?_;simp only [↓DN,Qa,Qb,Qc,Qd,Qe,Qf,Qg,Qh,reduceCtorEq,↓reduceIte,Na,Nb,Nc,Nk,Nf,Ng,Nh,Za,Zb,Zc,TT,hx,bO,aj,hm];refine hK _ _ ?_;clear hK K;simp only [b8,bt,bD,cU,List.toList_toArray,↓ba]; try simp only [UP,DF,Nc,↓reduceIte,DT]
     exact ⟨_,_,AV.aB.refl _,AS.le.refl _,rfl,h.bad hx (.inr ⟨t,e,rfl,ht,lh⟩) false⟩
  ·have MJ : ∃ sp,b = aj m sp:=by
    rcases hb with ⟨_,rfl⟩ | hb
    ·exact absurd rfl hm
    ·exact hb
   obtain ⟨sp,rfl⟩:=MJ;rw [Xg];simp only at hl;rcases Kg with ⟨rfl,ta⟩ | ⟨t,e,rfl,ht,lh⟩
   ·simp only at ta;subst ta;refine wE fun K hK=>?_;simp only [↓DN,Qa,Qb,Qc,Qd,Qe,Qf,Qg,Qh,reduceCtorEq,↓reduceIte,Na,Nb,Nc,Nk,Nf,Ng,Nh,Za,Zb,Zc,TT,hx,bO,aj,hm];refine ⟨by omega,by omega,fun t ht=>hK _ _ ?_⟩;clear hK K;simp only [b8,bt,bD,cU,List.toList_toArray,↓ba]; try simp only [UP,DF,Nc,↓reduceIte,DT]
    exact jW ⟨rfl,h.MD ht m⟩
   ·refine jU (Ai @hx (Ai @aj.eq_1 (Ai @hm @ht))) fun K hK=>?_;refine ⟨by omega,by omega,hK _ _ ?_⟩;clear hK K;simp only [b8,bt,bD,cU,List.toList_toArray,↓ba]; try simp only [UP,DF,Nc,↓reduceIte,DT]
    exact jW ⟨rfl,h.more lh m rfl rfl⟩
 ·refine jB @hx ?_;refine jF ?_;refine ab ?_;simp only [b8,bt,bD,cU,List.toList_toArray,↓ba]; try simp only [UP,DF,Nc,↓reduceIte,DT]
  exact jW ⟨rfl,h⟩
theorem qg (s0 s : AS) (p : Nat) (st : List UInt8 × Bool) (b : AV) (m : List UInt8) (k : Nat) (hk : k≤8) (hb : yL b m) (hl : st.1.length + m.length + 8≤2 ^ 45) (h : fI s0 s p st) :
  ai prog Γ 134 [.ptr p 0,b,.v (.int .i64 k)] s (fun r s'=>r = .dX []∧fI s0 s' p (dj k m st)):=by
 refine aa func134 rfl ntmps134 results134 (by simp) ?_;have hlen : (bd k m.length st).1.length≤st.1.length + k:=eu ..;rcases hb with ⟨rfl,rfl⟩ | ⟨sp,rfl⟩
 ·refine wS fun K hK=>?_;simp only [↓DN,Qa,Qb,Qc,Qd,Qe,Qf,Qg,Qh,reduceCtorEq,↓reduceIte,Na,Nb,Nc,Nk,Nf,Ng,Nh,Za,Zb,Zc,TT,bO,List.length_nil];refine ad (jg s0 s p st 0 k (by omega) hk (by omega) h) ?_;rintro r s' ⟨rfl,hp⟩;refine jR hK ?_;clear hK K;refine jT fun K hK=>?_;refine ad (sC s0 s' p _ bO [] yL.nil (by have:=eu k 0 st; simp at this hl ⊢; omega) hp) ?_;rintro r iq ⟨rfl,O3⟩;refine jR hK ?_;clear hK K;simp only [b8,bt,bD,cU,List.toList_toArray,↓ba]; try simp only [UP,DF,Nc,↓reduceIte,DT]
  exact jW ⟨rfl,O3⟩
 ·refine jS @aj.eq_1 fun K hK=>?_;refine ad (jg s0 s p st m.length k (by omega) hk (by omega) h) ?_;rintro r s' ⟨rfl,hp⟩;refine jR hK ?_;clear hK K;refine jT fun K hK=>?_;refine ad (sC s0 s' p _ (aj m sp) m (yL.mk m sp) (by simp only [List.length_nil] at *; omega) hp) ?_;rintro r iq ⟨rfl,O3⟩;refine jR hK ?_;clear hK K;simp only [b8,bt,bD,cU,List.toList_toArray,↓ba]; try simp only [UP,DF,Nc,↓reduceIte,DT]
  exact jW ⟨rfl,O3⟩
theorem fm (s0 s : AS) (p : Nat) (st : List UInt8 × Bool) (b : AV) (m : List UInt8) (hb : yL b m) (hl : st.1.length + m.length + 8≤2 ^ 45) (h : fI s0 s p st) :
  ai prog Γ 87 [.ptr p 0,b] s (fun r s'=>r = .dX []∧fI s0 s' p (dj 1 m st)):=by
 refine aa func87 rfl ntmps87 results87 (by simp) ?_;refine jT fun K hK=>?_;refine ad (qg s0 s p st b m 1 (by omega) hb hl h) ?_;rintro r s' ⟨rfl,hp⟩;refine jR hK ?_;clear hK K;simp only [b8,bt,bD,cU,List.toList_toArray,↓ba]; try simp only [UP,DF,Nc,↓reduceIte,DT]
 exact jW ⟨rfl,hp⟩
theorem ze (s0 s : AS) (p : Nat) (st : List UInt8 × Bool) (b : AV) (m : List UInt8) (hb : yL b m) (hl : st.1.length + m.length + 8≤2 ^ 45) (h : fI s0 s p st) :
  ai prog Γ 136 [.ptr p 0,b] s (fun r s'=>r = .dX []∧fI s0 s' p (dj 2 m st)):=by
 refine aa func136 rfl ntmps136 results136 (by simp) ?_;refine jT fun K hK=>?_;refine ad (qg s0 s p st b m 2 (by omega) hb hl h) ?_;rintro r s' ⟨rfl,hp⟩;refine jR hK ?_;clear hK K;simp only [b8,bt,bD,cU,List.toList_toArray,↓ba]; try simp only [UP,DF,Nc,↓reduceIte,DT]
 exact jW ⟨rfl,hp⟩
theorem AA (s : AS) : ai prog Γ 90 [bO] s (fun r s'=>r = aj [] .any∧s' = s):=by
 refine aa func90 rfl ntmps90 results90 (by simp) ?_;unfold bO;refine jA ?_;refine wK fun K hK=>?_;refine jA ?_;refine jE ?_;refine jA ?_;refine jI ?_;exact ⟨_,_,AV.aI,AS.le.refl _,rfl,rfl⟩
theorem sD (l : List UInt8) (s : AS) (hl : l.length≤2 ^ 45) : ai prog Γ 90 [aj l .any] s (fun r s'=>r = aj l .any∧s' = s) :=
 ai.any (pre:=[]) (post:=[]) (fun e=>by subst e; exact AA s) (uZ l .no rfl s hl)
theorem hM (s0 s : AS) (p : Nat) (st : List UInt8 × Bool) (hl : st.1.length≤2 ^ 45) (h : fI s0 s p st) :
  ai prog Γ 33 [.ptr p 0] s (fun r s'=>r = .dX [aj (if st.2 = true then [] else st.1) .any,.v (.bool !st.2)]∧s' = s):=by
 obtain ⟨l,bad⟩:=st;obtain ⟨x,hx,Kg⟩:=h.obj;refine aa func33 rfl ntmps33 results33 (by simp) ?_;simp only at hx hl Kg;refine jA ?_;refine wK fun K hK=>?_;cases bad
 ·refine jB @hx ?_;refine jF ?_;refine ab ?_;refine hK _ _ ?_;clear hK K;rcases Kg with ⟨rfl,ta⟩ | ⟨t,e,rfl,ht,lh⟩
  ·subst ta;refine jS @hx fun K hK=>?_;refine ad (AA s) ?_;rintro r s' ⟨rfl,rfl⟩;refine jR hK ?_;clear hK K;exact jJ
  ·refine jS @hx fun K hK=>?_;refine ad (uZ l _ rfl s hl) ?_;rintro r s' ⟨rfl,rfl⟩;refine jR hK ?_;clear hK K;exact jJ
 ·refine jB @hx ?_;refine jE ?_;refine jA ?_;refine jI ?_;exact ⟨_,_,AV.cO AV.aI (AV.aB.refl _),AS.le.refl _,rfl,rfl⟩
theorem qR (l : List UInt8) (s : AS) (hl : l.length≤2 ^ 45) : ai prog Γ 35 [aj l .any] s (fun r s'=>∃ p,r = .ptr p 0∧qF s s' p (l,0)):=by
 refine aa func35 rfl ntmps35 results35 (by simp) ?_;refine jA ?_;refine jQ fun K hK=>?_;refine ad (sD l s hl) ?_;rintro r s' ⟨rfl,rfl⟩;unfold aj;refine jM ?_;intro p hp;refine hK _ _ ?_;refine jI ?_;exact jW ⟨p,rfl,AS.aE (AS.le.refl _) hp _,hp,AS.ae _ _ _⟩
theorem FF (s0 s : AS) (p : Nat) (st : jb) (n : Int) (h : qF s0 s p st) :
  ai prog Γ 176 [.ptr p 0,.v (.int .i64 n)] s (fun r s'=>r = aj (dK n st).1 .any∧qF s0 s' p (dK n st).2):=by
 refine aa func176 rfl ntmps176 results176 (by simp) ?_;obtain ⟨l,er⟩:=st;have hx:=h.obj;simp only [aj] at hx;refine jA ?_;refine wK fun K hK=>?_;refine ag ?_;by_cases h0 : er = 0
 ·subst h0;refine jB (Ai @hx (Bj 0 rfl)) ?_;refine jF ?_;by_cases h1 : n < 0
  ·refine jB (decide_eq_true h1) ?_;refine jE ?_;refine jB @hx ?_;refine jA ?_;refine jI ?_;rw [Dg h1];exact ⟨_,_,AV.aI,AS.le.refl _,rfl,h.put⟩
  ·refine jB (decide_eq_false h1) ?_;refine jF ?_;by_cases h2 : (l.length : Int) < n
   ·refine jB (Ai @hx (decide_eq_true h2)) ?_;refine jE ?_;refine jB @hx ?_;refine jA ?_;refine jI ?_;rw [yM h1 h2];exact ⟨_,_,AV.aI,AS.le.refl _,rfl,h.put⟩
   ·obtain ⟨m,rfl⟩:=Int.eq_ofNat_of_zero_le (Int.not_lt.1 h1);have sZ : m≤l.length:=(by omega);have tc : (0 : Int)≤(m : Int):=(by omega);have Xh : (m : Int)≤(l.length : Int):=(by omega);refine jB (Ai @hx (decide_eq_false h2)) ?_;refine jF ?_;refine ab ?_;simp only [az,ar,if_true,if_false];refine hK _ _ ?_;clear hK K;refine jB (Ai @hx (Ai @tc (Ai @Xh @Int.le_refl))) ?_;refine jB (Ai @hx (Ai @tc (Ai @Xh @Int.le_refl))) ?_;refine jA ?_;refine jI ?_;rw [EU sZ];refine ⟨_,_,AV.aB.refl _,AS.le.refl _,Dc ?_ rfl,h.ZV ?_⟩
    ·simp only [List.length_take]; omega
    ·rw [Dc (m:=l.drop m)]
     ·simp only [List.length_drop]
     ·rw [List.take_length]
 ·refine jB (Ai @hx (Dd er h0)) ?_;refine jE ?_;refine jA ?_;refine jI ?_;rw [Df h0];exact ⟨_,_,AV.aI,AS.le.refl _,rfl,h⟩
theorem nN (s0 s : AS) (p : Nat) (st : jb) (size : Nat) (hs : size≤8) (h : qF s0 s p st) :
  ai prog Γ 137 [.ptr p 0,.v (.int .i64 size)] s (fun r s'=>r = .v (.int .u64 (iM size st).1)∧qF s0 s' p (iM size st).2):=by
 refine aa func137 rfl ntmps137 results137 (by simp) ?_;obtain ⟨out,bx⟩ : ∃ out,out = (dK size st).1:=⟨_,rfl⟩;have hlen : out.length≤8:=(by rw [bx]; exact Nat.le_trans (w9 _ _) hs);refine jA ?_;refine jA ?_;refine wK fun K hK=>?_;refine jQ fun K hK=>?_;refine ad (FF s0 s p st size h) ?_;rintro r s2 ⟨rfl,he⟩;rw [← bx];unfold aj;refine jR hK ?_;clear hK K;refine ag ?_;refine aC (fun E s3=>∃ j y : Nat,j≤out.length∧E 10 = .sl 1 out.length (out.map ah) .any∧E 11 = .v (.int .i64 out.length)∧E 12 = .v (.int .i64 j)∧E 5 = .v (.int .u64 y)∧y = gM (out.take j)∧s3 = s2)
  (fun E _=>match E 12 with | .v (.int _ j)=>out.length - j.toNat | _=>0) ?_ ?_
 ·exact ⟨0,0,Nat.zero_le _,rfl,rfl,rfl,rfl,rfl,rfl⟩
 ·rintro E3 s3 ⟨j,y,hj,f10,f11,f12,f5,hy,rfl⟩ -
  by_cases jZ : j < out.length
  ·have hy7 : y < 2 ^ 56:=by
    rw [hy];refine Nat.lt_of_lt_of_le (pW out j) ?_;rw [show (2 : Nat) ^ 56 = 256 ^ 7 from by decide];exact Nat.pow_le_pow_right (by decide) (by omega)
   have Xi : gM (out.take (j + 1)) = y * 256 + out[j].toNat:=(by rw [List.take_succ_eq_append_getElem jZ,w8,← hy]);have Xa : (0 : Int)≤(j : Int):=(by omega);have dw:=Je jZ;generalize H6 : out[j] = c at *
   refine jB (Ai @f11 (Ai @f12 (Ai @ax (decide_eq_true jZ)))) ?_;refine wK fun K5 kt=>?_;refine jE ?_;refine ab ?_;refine kt _ _ ?_;clear kt K5;refine wK fun K6 kV=>?_;refine ag ?_;refine wS fun K hK=>?_;simp only [↓DN,Qa,Qb,Qc,Qd,Qe,Qf,Qg,Qh,reduceCtorEq,↓reduceIte,Na,Nb,Nc,Nk,Nf,Ng,Nh,Za,Zb,Zc,TT,f10,f12,ax,jZ,Xa,dw,ah];refine hK _ _ ?_;clear hK K;refine jD (Ai @f5 (ET y c hy7)) ?_;simp only [ar,az,if_true,if_false];refine kV _ _ ?_;clear kV K6;refine jD (Ai @f12 (eF j (by omega))) ?_;refine ⟨⟨j + 1,y * 256 + c.toNat,by omega,f10,f11,rfl,rfl,Xi.symm,rfl⟩,?_⟩;simp only [f12,aF,↓reduceIte];omega
  ·refine jB (Ai @f11 (Ai @f12 (Ai @ax (decide_eq_false jZ)))) ?_;refine wK fun K5 kt=>?_;refine jF ?_;refine aA ?_;simp only [az,ar,if_true];refine hK _ _ ?_;clear hK kt K K5;refine jB @f5 ?_;refine jI ?_;refine ⟨_,_,AV.aB.refl _,AS.le.refl _,?_,he⟩;rw [hy,List.take_of_length_le (by omega),bx];rfl
theorem Ia (k : Nat) (hk : k≤7) (st : jb) : cB .i64 ((iM k st).1 : Int) = ((iM k st).1 : Int):=by
 have:=HC k st;have h2 : 256 ^ k≤256 ^ 7:=Nat.pow_le_pow_right (by decide) hk;have h3 : (256 : Nat) ^ 7 = 72057594037927936:=(by decide);exact zX (by omega)
theorem sE (s0 s : AS) (p : Nat) (st : jb) (h : qF s0 s p st) :
  ai prog Γ 217 [.ptr p 0] s (fun r s'=>r = .v (.int .i64 (iM 4 st).1)∧qF s0 s' p (iM 4 st).2):=by
 refine aa func217 rfl ntmps217 results217 (by simp) ?_;refine jA ?_;refine jQ fun K hK=>?_;refine ad (nN s0 s p st 4 (by omega) h) ?_;rintro r s' ⟨rfl,he⟩;refine jV (Ia 4 (by omega) st) hK ?_;clear hK K;refine jI ?_;exact jW ⟨rfl,he⟩
theorem BZ (s0 s : AS) (p : Nat) (st : jb) (h : qF s0 s p st) :
  ai prog Γ 94 [.ptr p 0] s (fun r s'=>r = .v (.int .u64 (iM 8 st).1)∧qF s0 s' p (iM 8 st).2):=by
 refine aa func94 rfl ntmps94 results94 (by simp) ?_;refine jA ?_;refine jQ fun K hK=>?_;refine ad (nN s0 s p st 8 (by omega) h) ?_;rintro r s' ⟨rfl,he⟩;refine jR hK ?_;clear hK K;refine jI ?_;exact jW ⟨rfl,he⟩
theorem n256 : ((256 : Int) = 0) = False:=by simp
theorem Kh (q : Nat) : cB .u8 (il (q : Int) 256) = ((UInt8.ofNat q).toNat : Int):=by
 rw [show (256 : Int) = ((256 : Nat) : Int) from rfl,kK,gh rfl];simp [IntKind.bits]
theorem NH (n i : Nat) (h : n < 2 ^ 64) : kA .u64 ((n / 256 ^ i : Nat) : Int) 256 = ((n / 256 ^ (i + 1) : Nat) : Int):=by
 have hq : n / 256 ^ i < 2 ^ IntKind.u64.bits:=Nat.lt_of_le_of_lt (Nat.div_le_self _ _) h;have:=Ja (k:=.u64) rfl (n / 256 ^ i) 256 hq;rw [show (256 : Int) = ((256 : Nat) : Int) from rfl,this,Nat.div_div_eq_div_mul,Nat.pow_succ]
theorem Ki (c : UInt8) : lA [AV.v (.int .u8 (c.toNat : Int))] = ByteArray.mk [c].toArray:=eW [c]
theorem NJ (c : UInt8) : isByte (AV.v (.int .u8 (c.toNat : Int))) = true:=rfl
theorem nO (n size : Nat) (hn : n < 2 ^ 64) (hs : size≤8) (s : AS) :
  ai prog Γ 91 [.v (.int .u64 n),.v (.int .i64 size)] s (fun r s'=>r = .v (.string ⟨(be size n).toArray⟩)∧s' = s):=by
 refine aa func91 rfl ntmps91 results91 (by simp) ?_;refine jA ?_;refine jA ?_;refine wK fun K hK=>?_;refine jA ?_;refine ag ?_;refine aC (fun E s1=>∃ i : Nat,i≤size∧E 6 = .v (.int .i64 i)∧E 1 = .v (.int .i64 size)∧E 0 = .v (.int .u64 (n / 256 ^ i : Nat))∧E 5 = .v (.string ⟨(be i n).toArray⟩)∧s1 = s)
  (fun E _=>match E 6 with | .v (.int _ i)=>size - i.toNat | _=>0) ?_ ?_
 ·exact ⟨0,Nat.zero_le _,by simp [aF],by simp [aF,bz],by simp [aF,bz],by simp [aF,be],rfl⟩
 ·rintro E1 s1 ⟨i,hi,h6,h1,h0,h5,rfl⟩ -
  refine wK fun K2 aV=>?_;by_cases aX : i < size
  ·refine jB (Ai @h6 (Ai @h1 (Ai @ax (decide_eq_true aX)))) ?_;refine jE ?_;refine ab ?_;refine aV _ _ ?_;clear aV K2;refine wK fun K3 br=>?_;refine ag ?_;refine wS fun K hK=>?_;simp only [↓DN,Qa,Qb,Qc,Qd,Qe,Qf,Qg,Qh,reduceCtorEq,↓reduceIte,Na,Nb,Nc,Nk,Nf,Ng,Nh,Za,Zb,Zc,TT,h0,h5,n256,Kh,Ki,NJ,List.replicate_succ,dB,pt,iL,ff (show 1 + i < 2 ^ 62 by omega)];refine hK _ _ ?_;clear hK K;refine jD (Ai @h0 (Ai @n256 (NH n i hn))) ?_;simp only [ar,az,if_true,if_false];refine br _ _ ?_;clear br K3;refine jD (Ai @h6 (eF i (by omega))) ?_;refine ⟨⟨i + 1,by omega,rfl,h1,rfl,?_,rfl⟩,?_⟩
   ·simp only [aF,Nc,↓reduceIte,be,show 2 ^ (8 * i) = 256 ^ i from by rw [Nat.pow_mul]]
   ·simp only [h6,aF,↓reduceIte];omega
  ·refine jB (Ai @h6 (Ai @h1 (Ai @ax (decide_eq_false aX)))) ?_;refine jF ?_;refine aA ?_;simp only [az,ar,if_true];refine hK _ _ ?_;clear hK aV K K2;refine jB @h5 ?_;refine jI ?_;obtain rfl : i = size:=(by omega);exact jW ⟨rfl,rfl⟩
theorem NK (n : Nat) (h : n < 2 ^ 63) : cB .u64 (n : Int) = n:=fT n (by omega)
theorem qh (l : List UInt8) (size : Nat) (hl : l.length < 2 ^ 61) (hs : size≤8) (s : AS) :
  ai prog Γ 92 [.v (.string ⟨l.toArray⟩),.v (.int .i64 size)] s (fun r s'=>r = .v (.string ⟨(be size l.length ++ l).toArray⟩)∧s' = s):=by
 refine aa func92 rfl ntmps92 results92 (by simp) ?_;refine jA ?_;refine jS (Ai @dB (NK l.length (by omega))) fun K hK=>?_;refine ad (nO l.length size (by omega) hs s) ?_;rintro r s' ⟨rfl,rfl⟩;refine jV (Ai @dB (Ai @pt (Ai @iL (ff (show size + l.length < 2 ^ 62 by omega))))) hK ?_;clear hK K;exact jJ
theorem Kj (y : Nat) (c : UInt8) (h : y < 2 ^ 56) : dP .u64 (iF .u64 (y : Int) 256) (cB .u64 (c.toNat : Int)) = ((y * 256 + c.toNat : Nat) : Int):=by
 have hc:=c.toNat_lt;rw [fT _ (by omega),show (256 : Int) = ((256 : Nat) : Int) from rfl,Bh rfl,Nat.mod_eq_of_lt (by simp only [IntKind.bits]; omega),th rfl,Nat.mod_eq_of_lt (by simp only [IntKind.bits]; omega)]
theorem DJ (l : List UInt8) (hl : l.length≤8) (s : AS) :
  ai prog Γ 67 [.v (.string ⟨l.toArray⟩)] s (fun r s'=>r = .v (.int .u64 (gM l))∧s' = s):=by
 refine aa func67 rfl ntmps67 results67 (by simp) ?_;refine jA ?_;refine jA ?_;refine wK fun K hK=>?_;refine jA ?_;refine ag ?_;refine aC (fun E s1=>∃ i x : Nat,i≤l.length∧E 0 = .v (.string ⟨l.toArray⟩)∧E 4 = .v (.int .i64 i)∧E 3 = .v (.int .u64 x)∧x = gM (l.take i)∧s1 = s)
  (fun E _=>match E 4 with | .v (.int _ i)=>l.length - i.toNat | _=>0) ?_ ?_
 ·exact ⟨0,0,Nat.zero_le _,by simp [aF,bz],by simp [aF],by simp [aF],by simp [gM],rfl⟩
 ·rintro E1 s1 ⟨i,x,hi,h0,h4,h3,hx,rfl⟩ -
  refine wK fun K2 aV=>?_;by_cases aX : i < l.length
  ·have SQ : gM (l.take (i + 1)) = x * 256 + l[i].toNat:=(by rw [List.take_succ_eq_append_getElem aX,w8,← hx]);have hx7 : x < 2 ^ 56:=by
    rw [hx];refine Nat.lt_of_lt_of_le (pW l i) ?_;rw [show (2 : Nat) ^ 56 = 256 ^ 7 from by decide];exact Nat.pow_le_pow_right (by decide) (by omega)
   have WJ : (0 : Int)≤(i : Int):=(by omega);have fJ:=QJ l i aX;generalize H6 : l[i] = c at *
   refine jB (Ai @h0 (Ai @h4 (Ai @dB (Ai @ax (decide_eq_true aX))))) ?_;refine jE ?_;refine ab ?_;refine aV _ _ ?_;clear aV K2;refine wK fun K3 br=>?_;refine ag ?_;refine wE fun K hK=>?_;simp only [↓DN,Qa,Qb,Qc,Qd,Qe,Qf,Qg,Qh,reduceCtorEq,↓reduceIte,Na,Nb,Nc,Nk,Nf,Ng,Nh,Za,Zb,Zc,TT,h0,h4,h3,WJ,fJ,ah,Kj x c hx7];refine hK _ _ ?_;clear hK K;simp only [ar,az,if_true,if_false];refine br _ _ ?_;clear br K3;refine jD (Ai @h4 (eF i (by omega))) ?_;refine ⟨⟨i + 1,_,by omega,h0,rfl,rfl,SQ.symm,rfl⟩,?_⟩;simp only [h4,aF,↓reduceIte];omega
  ·refine jB (Ai @h0 (Ai @h4 (Ai @dB (Ai @ax (decide_eq_false aX))))) ?_;refine jF ?_;refine aA ?_;simp only [az,ar,if_true];refine hK _ _ ?_;clear hK aV K K2;refine jB @h3 ?_;refine jI ?_;refine jW ⟨?_,rfl⟩;rw [hx,List.take_of_length_le (by omega)]
theorem cb (n : Nat) (s : AS) : ai prog Γ 44 [.v (.int .u64 n)] s (fun r s'=>r = .v (.bool (decide (2≤(n : Int)) && decide ((n : Int)≤2305843009213693949)))∧s' = s):=by
 refine aa func44 rfl ntmps44 results44 (by simp) ?_;rcases ZW (decide (2≤(n : Int))) (decide ((n : Int)≤2305843009213693949)) with hd | hd | hd;all_goals
  refine jA ?_;refine jB @hd ?_;refine jI ?_;refine jW ⟨?_,rfl⟩;simp only [hd,Bool.and_true,Bool.true_and,Bool.false_and,Bool.and_false]
theorem tT (n : Nat) (s : AS) : ai prog Γ 53 [.v (.int .u64 n)] s (fun r s'=>r = .v (.bool (decide (2≤(n : Int)) && decide ((n : Int)≤2305843009213693949)))∧s' = s):=by
 refine aa func53 rfl ntmps53 results53 (by simp) ?_;rcases ZW (decide (2≤(n : Int))) (decide ((n : Int)≤2305843009213693949)) with hd | hd | hd;all_goals
  refine jA ?_;refine jB @hd ?_;refine jI ?_;refine jW ⟨?_,rfl⟩;simp only [hd,Bool.and_true,Bool.true_and,Bool.false_and,Bool.and_false]
theorem cP (a b : List UInt8) (s : AS) : ai prog Γ 62 [aj a .any,aj b .any] s (fun r s'=>r = .v (.bool (decide (a = b)))∧s' = s):=by
 refine aa func62 rfl ntmps62 results62 (by simp) ?_;refine jA ?_;refine jB @rW ?_;exact jJ
theorem qi {a b : Nat} (h : a = b) : (((a : Int) != (b : Int))) = false:=by subst h; simp
theorem sF {a b : Nat} (h : a≠b) : (((a : Int) != (b : Int))) = true:=by simp; omega
theorem fZ {a b : Int} (h : a = b) : (a != b) = false:=by subst h; simp
theorem fC {a b : Int} (h : a≠b) : (a != b) = true:=by simpa using h
theorem sG (a b : List Int) (hl : a.length≤2 ^ 61) (s : AS) : ai prog Γ 231 [aH a .any,aH b .any] s (fun r s'=>r = .v (.bool (decide (a = b)))∧s' = s):=by
 refine aa func231 rfl ntmps231 results231 (by simp) ?_;unfold aH;refine jA ?_;refine wK fun K hK=>?_;by_cases h0 : a.length = b.length
 ·refine jB (qi h0) ?_;refine jF ?_;refine ab ?_;refine hK _ _ ?_;clear hK K;refine wK fun K hK=>?_;refine jA ?_;refine ag ?_;refine aC (fun E s1=>∃ i : Nat,i≤a.length∧E 13 = .v (.int .i64 i)∧E 12 = .v (.int .i64 a.length)∧E 0 = .sl 1 a.length (a.map aM) .any∧E 1 = .sl 1 b.length (b.map aM) .any∧a.take i = b.take i∧s1 = s)
   (fun E _=>match E 13 with | .v (.int _ i)=>a.length - i.toNat | _=>0) ?_ ?_
  ·exact ⟨0,Nat.zero_le _,by simp [aF],by simp [aF],by simp [aF,bz],by simp [aF,bz],rfl,rfl⟩
  ·rintro E1 s1 ⟨i,hi,Kk,yX,NL,h1,he,rfl⟩ -
   by_cases aX : i < a.length
   ·have Ey : i < b.length:=(by omega);refine jB (Ai @Kk (Ai @yX (Ai @ax (decide_eq_true aX)))) ?_;refine wK fun K2 aV=>?_;refine jE ?_;refine ab ?_;refine aV _ _ ?_;clear aV K2;refine wK fun K3 br=>?_;refine ag ?_;refine jB @Kk ?_;have cz : (0 : Int)≤(i : Int):=(by omega);have dw:=eU aX;have Xj:=eU Ey;by_cases hx : a[i] = b[i]
    ·refine bn T.mixed [] (by kernel_rfl) ?_;intro K hK;refine jV (Ai @Kk (Ai @NL (Ai @h1 (Ai @cz (Ai @ax (Ai @aX (Ai @Ey (Ai @dw (Ai @Xj (fZ hx)))))))))) hK ?_;clear hK K;refine jF ?_;refine ab ?_;simp only [ar,az,if_true,if_false];refine br _ _ ?_;clear br K3;refine jD (Ai @Kk (eF i (by omega))) ?_;refine ⟨⟨i + 1,by omega,rfl,yX,NL,h1,sj aX Ey he hx,rfl⟩,?_⟩;simp only [Kk,aF,↓reduceIte];omega
    ·refine bn T.mixed [] (by kernel_rfl) ?_;intro K hK;refine jV (Ai @Kk (Ai @NL (Ai @h1 (Ai @cz (Ai @ax (Ai @aX (Ai @Ey (Ai @dw (Ai @Xj (fC hx)))))))))) hK ?_;clear hK K;refine jE ?_;refine jA ?_;refine aW ?_;simp only [az,ar];simp only [b8,bt,bD,cU,List.toList_toArray,↓ba]; try simp only [UP,DF,Nc,↓reduceIte,DT]
     refine jW ⟨?_,rfl⟩;rw [decide_eq_false];intro e;subst e;exact hx rfl
   ·refine jB (Ai @Kk (Ai @yX (Ai @ax (decide_eq_false aX)))) ?_;refine wK fun K2 aV=>?_;refine jF ?_;refine aA ?_;simp only [az,ar,if_true];refine hK _ _ ?_;clear hK aV K K2;refine jA ?_;refine jI ?_;refine jW ⟨?_,rfl⟩;rw [List.take_of_length_le (by omega),List.take_of_length_le (by omega)] at he;rw [decide_eq_true he]
 ·refine jB (sF h0) ?_;refine jE ?_;refine jA ?_;refine jI ?_;refine jW ⟨?_,rfl⟩;rw [decide_eq_false (fun e=>h0 (by rw [e]))];try rfl
theorem zf (a b : List Int) (hl : a.length≤2 ^ 61) (s : AS) : ai prog Γ 123 [aH a .any,aH b .any] s (fun r s'=>r = .v (.bool (decide (a = b)))∧s' = s):=by
 refine aa func123 rfl ntmps123 results123 (by simp) ?_;unfold aH;refine jA ?_;refine wK fun K hK=>?_;by_cases h0 : a.length = b.length
 ·refine jB (qi h0) ?_;refine jF ?_;refine ab ?_;refine hK _ _ ?_;clear hK K;refine wK fun K hK=>?_;refine jA ?_;refine ag ?_;refine aC (fun E s1=>∃ i : Nat,i≤a.length∧E 5 = .v (.int .i64 i)∧E 0 = .sl 1 a.length (a.map aM) .any∧E 1 = .sl 1 b.length (b.map aM) .any∧a.take i = b.take i∧s1 = s)
   (fun E _=>match E 5 with | .v (.int _ i)=>a.length - i.toNat | _=>0) ?_ ?_
  ·exact ⟨0,Nat.zero_le _,by simp [aF],by simp [aF,bz],by simp [aF,bz],rfl,rfl⟩
  ·rintro E1 s1 ⟨i,hi,h5,NL,h1,he,rfl⟩ -
   refine wK fun K2 aV=>?_;by_cases aX : i < a.length
   ·have Ey : i < b.length:=(by omega);refine jB (Ai @h5 (Ai @NL (Ai @ax (decide_eq_true aX)))) ?_;refine jE ?_;refine ab ?_;refine aV _ _ ?_;clear aV K2;refine wK fun K3 br=>?_;refine ag ?_;have cz : (0 : Int)≤(i : Int):=(by omega);have dw:=eU aX;have Xj:=eU Ey;by_cases hx : a[i] = b[i]
    ·refine bn T.mixed [] (by kernel_rfl) ?_;intro K hK;refine jV (Ai @h5 (Ai @NL (Ai @h1 (Ai @cz (Ai @ax (Ai @aX (Ai @Ey (Ai @dw (Ai @Xj (fZ hx)))))))))) hK ?_;clear hK K;refine jF ?_;refine ab ?_;simp only [ar,az,if_true,if_false];refine br _ _ ?_;clear br K3;refine jD (Ai @h5 (eF i (by omega))) ?_;refine ⟨⟨i + 1,by omega,rfl,NL,h1,sj aX Ey he hx,rfl⟩,?_⟩;simp only [h5,aF,↓reduceIte];omega
    ·refine bn T.mixed [] (by kernel_rfl) ?_;intro K hK;refine jV (Ai @h5 (Ai @NL (Ai @h1 (Ai @cz (Ai @ax (Ai @aX (Ai @Ey (Ai @dw (Ai @Xj (fC hx)))))))))) hK ?_;clear hK K;refine jE ?_;refine jA ?_;refine aW ?_;simp only [az,ar];simp only [b8,bt,bD,cU,List.toList_toArray,↓ba]; try simp only [UP,DF,Nc,↓reduceIte,DT]
     refine jW ⟨?_,rfl⟩;rw [decide_eq_false];intro e;subst e;exact hx rfl
   ·refine jB (Ai @h5 (Ai @NL (Ai @ax (decide_eq_false aX)))) ?_;refine jF ?_;refine aA ?_;simp only [az,ar,if_true];refine hK _ _ ?_;clear hK aV K K2;refine jA ?_;refine jI ?_;refine jW ⟨?_,rfl⟩;rw [List.take_of_length_le (by omega),List.take_of_length_le (by omega)] at he;rw [decide_eq_true he]
 ·refine jB (sF h0) ?_;refine jE ?_;refine jA ?_;refine jI ?_;refine jW ⟨?_,rfl⟩;rw [decide_eq_false (fun e=>h0 (by rw [e]))];try rfl
theorem xH (N M : al) (hl : N.jk.length≤2 ^ 61) (s : AS) : ai prog Γ 195 [.agg N.cells,.agg M.cells] s (fun r s'=>r = .v (.bool (decide (N = M)))∧s' = s):=by
 refine aa func195 rfl ntmps195 results195 (by simp) ?_;unfold al.cells;obtain ⟨k,m,y,p,u⟩:=N;obtain ⟨k',m',y',p',u'⟩:=M;rw [sm];refine jS @aH.eq_1 fun K hK=>?_;intro o ho;intro o' ru;have cW : o≠o':=by
  intro e;subst e;simp [AS.set] at ru
 have hle : s.le ((s.set o [.v (.int .i64 k),aj m .any,.v (.int .u64 y),aj p .any,aH u .any]).set o' [.v (.int .i64 k'),aj m' .any,.v (.int .u64 y'),aj p' .any,aH u' .any]):=AS.aE (AS.aE (AS.le.refl s) ho _) (by simpa [AS.set,aF,cW.symm] using ru) _;refine hK _ _ ?_;clear hK K;rcases ff5 (k == k') ((y : Int) == (y' : Int)) (decide (m = m')) (decide (p = p')) (decide (u = u')) with hd | hd | hd | hd | hd | hd
 ·refine jB (Ai @cW (Ai @hd @aH.eq_1)) ?_;refine jI ?_;refine ⟨_,s,AV.aB.refl _,hle,?_,rfl⟩;simp only [hd,Bool.and_true,Bool.true_and,Bool.false_and,Bool.and_false];try rfl
 ·refine jB (Ai @cW (Ai @hd @aH.eq_1)) ?_;refine jI ?_;refine ⟨_,s,AV.aB.refl _,hle,?_,rfl⟩;simp only [hd,Bool.and_true,Bool.true_and,Bool.false_and,Bool.and_false];try rfl
 ·refine jS (Ai @cW (Ai @hd @aH.eq_1)) fun K hK=>?_;refine ad (cP m m' _) ?_;rintro r s' ⟨rfl,rfl⟩;refine jV (Ai @cW (Ai @hd @aH.eq_1)) hK ?_;clear hK K;refine jI ?_;refine ⟨_,s,AV.aB.refl _,hle,?_,rfl⟩;simp only [hd,Bool.and_true,Bool.true_and,Bool.false_and,Bool.and_false];try rfl
 ·refine jS (Ai @cW (Ai @hd @aH.eq_1)) fun K hK=>?_;refine ad (cP m m' _) ?_;rintro r s' ⟨rfl,rfl⟩;refine jN (Ai @cW (Ai @hd @aH.eq_1)) ?_;refine ad (cP p p' _) ?_;rintro r s' ⟨rfl,rfl⟩;refine jV (Ai @cW (Ai @hd @aH.eq_1)) hK ?_;clear hK K;refine jI ?_;refine ⟨_,s,AV.aB.refl _,hle,?_,rfl⟩;simp only [hd,Bool.and_true,Bool.true_and,Bool.false_and,Bool.and_false];try rfl
 all_goals
  refine jS (Ai @cW (Ai @hd @aH.eq_1)) fun K hK=>?_;refine ad (cP m m' _) ?_;rintro r s' ⟨rfl,rfl⟩;refine jN (Ai @cW (Ai @hd @aH.eq_1)) ?_;refine ad (cP p p' _) ?_;rintro r s' ⟨rfl,rfl⟩;refine jN (Ai @cW (Ai @hd @aH.eq_1)) ?_;refine ad (sG u u' hl _) ?_;rintro r s' ⟨rfl,rfl⟩;refine jV (Ai @cW (Ai @hd @aH.eq_1)) hK ?_;clear hK K;refine jI ?_;refine ⟨_,s,AV.aB.refl _,hle,?_,rfl⟩;simp only [hd,Bool.and_true,Bool.true_and,Bool.false_and,Bool.and_false];try rfl
theorem vB (N M : al) (hl : N.jk.length≤2 ^ 61) (s : AS) : ai prog Γ 60 [.agg N.cells,.agg M.cells] s (fun r s'=>r = .v (.bool (decide (N = M)))∧s' = s):=by
 refine aa func60 rfl ntmps60 results60 (by simp) ?_;unfold al.cells;obtain ⟨k,m,y,p,u⟩:=N;obtain ⟨k',m',y',p',u'⟩:=M;rw [sm];refine jS @aH.eq_1 fun K hK=>?_;intro o ho;intro o' ru;have cW : o≠o':=by
  intro e;subst e;simp [AS.set] at ru
 have hle : s.le ((s.set o [.v (.int .i64 k),aj m .any,.v (.int .u64 y),aj p .any,aH u .any]).set o' [.v (.int .i64 k'),aj m' .any,.v (.int .u64 y'),aj p' .any,aH u' .any]):=AS.aE (AS.aE (AS.le.refl s) ho _) (by simpa [AS.set,aF,cW.symm] using ru) _;refine hK _ _ ?_;clear hK K;rcases ff5 (k == k') ((y : Int) == (y' : Int)) (decide (m = m')) (decide (p = p')) (decide (u = u')) with hd | hd | hd | hd | hd | hd;case inr.inr.inr.inr.inl | inr.inr.inr.inr.inr =>
  refine jS (Ai @cW (Ai @hd (Ai @aH.eq_1 @rW))) fun K hK=>?_;refine ad (zf u u' hl _) ?_;rintro r s' ⟨rfl,rfl⟩;refine jV (Ai @cW (Ai @hd (Ai @aH.eq_1 @rW))) hK ?_;clear hK K;refine jI ?_;refine ⟨_,s,AV.aB.refl _,hle,?_,rfl⟩;simp only [hd,Bool.and_true,Bool.true_and,Bool.false_and,Bool.and_false];try rfl
 all_goals
  refine jB (Ai @cW (Ai @hd (Ai @aH.eq_1 @rW))) ?_;refine jI ?_;refine ⟨_,s,AV.aB.refl _,hle,?_,rfl⟩;simp only [hd,Bool.and_true,Bool.true_and,Bool.false_and,Bool.and_false];try rfl
end Go.Proofs.YtbiefppedlodiaaGreatDoor
