/- Contracts of the program's functions, each walked once; the conditions stand in each theorem. -/
import Derived.Test.YtfjlmkifiihgkaaGreatDoorW2
import Derived.Test.YtfjlmkifiihgkaaGreatDoorW1
import Derived.Test.YtfjlmkifiihgkaaGreatDoorAMp5
import Derived.Test.YtfjlmkifiihgkaaGreatDoorW3
import Derived.Test.YtfjlmkifiihgkaaGreatDoorAMp4
import Derived.Test.YtfjlmkifiihgkaaGreatDoorW5
import Derived.Test.YtfjlmkifiihgkaaGreatDoorW6
import Derived.Test.YtfjlmkifiihgkaaGreatDoorAMp6
import Derived.Test.YtfjlmkifiihgkaaGreatDoorAMp7
import Derived.Test.YtfjlmkifiihgkaaGreatDoorW4
set_option linter.unusedSimpArgs false
set_option linter.unusedVariables false
open Nat renaming reduceLT → Na, reduceLeDiff → Nb, reduceEqDiff → Nc, reduceAdd → Nk, reduceMul → Nf, reducePow → Ng, reduceSub → Nh, reduceBEq → Nz
open Int renaming reduceLT → Za, reduceLE → Zb, reduceToNat → Zc
open And renaming intro → Ai
open Go.AM renaming ashift → Qa, aconv → Qb, aindexAddr → Qc, aindex → Qd, aslice → Qe, abuiltin → Qf, awp_reg_seq → wS, awp_reg_end → wE, awp_seq_k → wK, awp_cond_k → wC
open Go.AM.AV renaming cells → Qg, one → Qh
set_option maxRecDepth 100000
set_option maxHeartbeats 8000000
set_option autoImplicit false
namespace Go.AM
open Go
theorem IsTy.tree {avs : List AV} (h : IsTy (.slice 5 (.struct (.cons tyI (.cons tyB (.cons (.int .u64) (.cons tyB (.cons (.slice 1 tyI) .nil))))))) avs) : ∃ t : List NodeV,avs = [treeV t]∧∀ n ∈ t,n.key < 2 ^ 64:=by
  obtain ⟨els,rfl,_,hall⟩:=IsTy.rows h
  have key : ∀ els : List (List AV),(∀ el ∈ els,el.length = 5∧IsTy (.struct (.cons tyI (.cons tyB (.cons (.int .u64) (.cons tyB (.cons (.slice 1 tyI) .nil)))))) el)→∃ t : List NodeV,els = t.map NodeV.cells∧∀ n ∈ t,n.key < 2 ^ 64:=by
    intro els
    induction els with
    | nil=>intro _; exact ⟨[],rfl,fun n hn=>by cases hn⟩
    | cons e els ih =>
      intro h
      obtain ⟨t,rfl,h2⟩:=ih (fun el hel=>h el (by simp [hel]))
      obtain ⟨_,h1⟩:=h e (by simp)
      obtain ⟨N,rfl,hN⟩:=IsTy.node h1
      refine ⟨N :: t,rfl,fun n hn=>?_⟩
      rcases List.mem_cons.1 hn with rfl | hn
      · exact hN
      · exact h2 n hn
  obtain ⟨t,rfl,h2⟩:=key els hall
  refine ⟨t,?_,h2⟩
  unfold treeV rowC
  rw [List.length_map]
end Go.AM
namespace Go.AM
open Go
def txt (k : Nat) (l : List UInt8) : List UInt8:=be k l.length ++ l
def PropV.body (p : PropV) : List UInt8:=if p.kind = 1 then txt 1 p.name ++ (be 8 p.key ++ be 8 p.init) else if p.kind = 2 then be 1 p.leaf.toNat ++ be 8 p.key else be 1 p.leaf.toNat
def PropV.text (p : PropV) : List UInt8:=be 1 p.kind.toNat ++ p.body
def SealV.wtext (x : SealV) : List UInt8:=be 8 x.frm ++ txt 2 x.text
def flatT {α : Type} (f : α→List UInt8) (l : List α) : List UInt8:=(l.map f).flatten
def StepV.text (x : StepV) : List UInt8:=be 8 x.key ++ (be 1 x.seals.length ++ flatT SealV.wtext x.seals)
def PathV.text (x : PathV) : List UInt8:=be 8 x.key ++ (txt 1 x.parent ++ (be 1 x.steps.length ++ flatT StepV.text x.steps))
def CommitV.tail (c : CommitV) : List UInt8:=if c.hasPath then be 1 1 ++ c.path.text else be 1 0
def CommitV.content (c : CommitV) : List UInt8 :=
  be 1 1 ++ (txt 1 c.group ++ (be 8 c.epoch.toNat ++ (be 1 c.sender.toNat ++ (be 1 c.props.length ++ (flatT PropV.text c.props ++ c.tail)))))
def CommitV.text (c : CommitV) : List UInt8:=c.content ++ (txt 1 c.confirm ++ txt 1 c.member)
end Go.AM
namespace Go.AM
open Go
theorem IsTy.record {avs : List AV} (h : IsTy (.struct (.cons tyI (.cons tyB (.cons tyI (.cons tyI (.cons tyI (.cons tyB (.cons tyB (.cons tyB (.cons tyB .nil)))))))))) avs) : ∃ R : Rec,avs = R.cells:=by
  obtain ⟨x1,y1,rfl,t1,h⟩:=isF_cons (isTy_struct h)
  obtain ⟨x2,y2,rfl,t2,h⟩:=isF_cons h
  obtain ⟨x3,y3,rfl,t3,h⟩:=isF_cons h
  obtain ⟨x4,y4,rfl,t4,h⟩:=isF_cons h
  obtain ⟨x5,y5,rfl,t5,h⟩:=isF_cons h
  obtain ⟨x6,y6,rfl,t6,h⟩:=isF_cons h
  obtain ⟨x7,y7,rfl,t7,h⟩:=isF_cons h
  obtain ⟨x8,y8,rfl,t8,h⟩:=isF_cons h
  obtain ⟨x9,y9,rfl,t9,h⟩:=isF_cons h
  obtain rfl:=isF_nil h
  obtain ⟨n1,rfl,_⟩:=isTy_int t1
  obtain ⟨l2,rfl,_⟩:=t2.bytes
  obtain ⟨n3,rfl,_⟩:=isTy_int t3
  obtain ⟨n4,rfl,_⟩:=isTy_int t4
  obtain ⟨n5,rfl,_⟩:=isTy_int t5
  obtain ⟨l6,rfl,_⟩:=t6.bytes
  obtain ⟨l7,rfl,_⟩:=t7.bytes
  obtain ⟨l8,rfl,_⟩:=t8.bytes
  obtain ⟨l9,rfl,_⟩:=t9.bytes
  exact ⟨⟨n1,l2,n3,n4,n5,l6,l7,l8,l9⟩,rfl⟩
end Go.AM
namespace Go.AM
namespace Kdf
variable (secret info : List UInt8)
def blk : Nat→List UInt8
  | 0=>[]
  | i + 1=>Mac.tag secret (blk i ++ info ++ [UInt8.ofNat (i + 1)])
def row : Nat→List UInt8
  | 0=>[]
  | i + 1=>row i ++ blk secret info (i + 1)
theorem blk_len (i : Nat) : (blk secret info (i + 1)).length = 32:=Mac.tag_len _ _
theorem row_len : ∀ i : Nat,(row secret info i).length = 32 * i
  | 0=>rfl
  | i + 1=>by rw [row,List.length_append,row_len i,blk_len]; omega
def rounds (n : Nat) : Nat:=(n + 31) / 32
def expand (n : Nat) : List UInt8:=(row secret info (rounds n)).take n
def ok (n : Int) : Bool:=decide (0≤n) && decide (n≤8160)
def get (n : Int) : List UInt8:=if ok n = true then expand secret info n.toNat else []
end Kdf
end Go.AM
namespace Go.AM
namespace Kdf
def mls : List UInt8:=[109,108,115,32]
def fits (l c : List UInt8) (n : Int) : Bool:=decide (l.length≤251) && decide (c.length≤65535) && decide (0≤n) && decide (n≤8160)
def text (l c : List UInt8) (n : Nat) : List UInt8:=be 2 n ++ (be 1 (mls ++ l).length ++ (mls ++ l)) ++ (be 2 c.length ++ c)
def label (secret l c : List UInt8) (n : Int) : List UInt8:=if fits l c n = true then expand secret (text l c n.toNat) n.toNat else []
def derive (secret l : List UInt8) : List UInt8:=label secret (l.take 251) [] 32
def pen (l c : List UInt8) (n : Int) : List UInt8 × Bool:=penText 2 c (penText 1 (mls ++ l) (penSmall 2 n ([],false)))
end Kdf
end Go.AM
namespace Go.AM
namespace Sch
def epochW : List UInt8:=[101,112,111,99,104]
def welcomeW : List UInt8:=[119,101,108,99,111,109,101]
def exporterW : List UInt8:=[101,120,112,111,114,116,101,114]
def confirmW : List UInt8:=[99,111,110,102,105,114,109]
def memberW : List UInt8:=[109,101,109,98,101,114,115,104,105,112]
def initW : List UInt8:=[105,110,105,116]
def main (j : List UInt8) : List UInt8:=Mac.tag j (List.replicate 32 0)
def epoch (j c : List UInt8) : List UInt8:=Kdf.label (main j) epochW c 32
def of (j c : List UInt8) : List (List UInt8):=[j,Kdf.derive (main j) welcomeW,Kdf.derive (epoch j c) exporterW,Kdf.derive (epoch j c) confirmW,Kdf.derive (epoch j c) memberW,Kdf.derive (epoch j c) initW]
end Sch
end Go.AM
namespace Go.AM
namespace Aes
def dbl (a : UInt8) : UInt8:=(a <<< (1 : UInt8)) ^^^ ((27 : UInt8) &&& ((0 : UInt8) - (a >>> (7 : UInt8))))
def gm : Nat→UInt8→UInt8→UInt8→UInt8
  | 0,o,_,_=>o
  | f + 1,o,a,b=>gm f (o ^^^ (a &&& ((0 : UInt8) - (b &&& 1)))) (dbl a) (b >>> 1)
def pw : Nat→UInt8→UInt8→Nat→UInt8
  | 0,o,_,_=>o
  | f + 1,o,a,n=>pw f (if n % 2 = 1 then gm 8 0 o a else o) (gm 8 0 a a) (n / 2)
def inv (a : UInt8) : UInt8:=pw 8 1 a 254
def rot (x : UInt8) (i : Nat) : UInt8:=UInt8.ofNat (x.toNat * 2 ^ i) ||| UInt8.ofNat (x.toNat / 2 ^ (8 - i))
def boxP (x : UInt8) : Nat→UInt8
  | 0=>99 ^^^ x
  | k + 1=>boxP x k ^^^ rot x (k + 1)
def box (c : UInt8) : UInt8:=boxP (inv c) 4
def sb : List UInt8:=[99,124,119,123,242,107,111,197,48,1,103,43,254,215,171,118,202,130,201,125,250,89,71,240,173,212,162,175,156,164,114,192,183,253,147,38,54,63,247,204,52,165,229,241,113,216,49,21,4,199,35,195,24,150,5,154,7,18,128,226,235,39,178,117,9,131,44,26,27,110,90,160,82,59,214,179,41,227,47,132,83,209,0,237,32,252,177,91,106,203,190,57,74,76,88,207,208,239,170,251,67,77,51,133,69,249,2,127,80,60,159,168,81,163,64,143,146,157,56,245,188,182,218,33,16,255,243,210,205,12,19,236,95,151,68,23,196,167,126,61,100,93,25,115,96,129,79,220,34,42,144,136,70,238,184,20,222,94,11,219,224,50,58,10,73,6,36,92,194,211,172,98,145,149,228,121,231,200,55,109,141,213,78,169,108,86,244,234,101,122,174,8,186,120,37,46,28,166,180,198,232,221,116,31,75,189,139,138,112,62,181,102,72,3,246,14,97,53,87,185,134,193,29,158,225,248,152,17,105,217,142,148,155,30,135,233,206,85,40,223,140,161,137,13,191,230,66,104,65,153,45,15,176,84,187,22]
def S (x : UInt8) : UInt8:=sb.getD x.toNat 0
def pwr : Nat→UInt8
  | 0=>1
  | r + 1=>dbl (pwr r)
def nx (k : List UInt8) (p : UInt8) : List UInt8 :=
  match k with
  | [k0,k1,k2,k3,k4,k5,k6,k7,k8,k9,k10,k11,k12,k13,k14,k15] =>
    let a0:=(k0 ^^^ S k13) ^^^ p
    let a1:=k1 ^^^ S k14
    let a2:=k2 ^^^ S k15
    let a3:=k3 ^^^ S k12
    let b0:=k4 ^^^ a0
    let b1:=k5 ^^^ a1
    let b2:=k6 ^^^ a2
    let b3:=k7 ^^^ a3
    let c0:=k8 ^^^ b0
    let c1:=k9 ^^^ b1
    let c2:=k10 ^^^ b2
    let c3:=k11 ^^^ b3
    [a0,a1,a2,a3,b0,b1,b2,b3,c0,c1,c2,c3,k12 ^^^ c0,k13 ^^^ c1,k14 ^^^ c2,k15 ^^^ c3]
  | _=>[]
def kr (key : List UInt8) : Nat→List UInt8
  | 0=>key
  | r + 1=>nx (kr key r) (pwr r)
def sh (b : List UInt8) (n : Nat) : UInt8:=S (b.getD (4 * ((n / 4 + n % 4) % 4) + n % 4) 0)
def mx (c : Nat→UInt8) (i : Nat) : UInt8:=(((dbl (c i) ^^^ dbl (c ((i + 1) % 4))) ^^^ c ((i + 1) % 4)) ^^^ c ((i + 2) % 4)) ^^^ c ((i + 3) % 4)
def rnd (b : List UInt8) (last : Bool) : List UInt8:=(List.range 16).map fun n=>if last then sh b n else mx (fun i=>sh b (4 * (n / 4) + i)) (n % 4)
def add (b k : List UInt8) : List UInt8:=(List.range 16).map fun n=>b.getD n 0 ^^^ k.getD n 0
def state (key b : List UInt8) : Nat→List UInt8
  | 0=>add b (kr key 0)
  | r + 1=>add (rnd (state key b r) (r + 1 == 10)) (kr key (r + 1))
def block (key b : List UInt8) : List UInt8:=state key b 10
def first (nonce : List UInt8) : Nat:=beNat (nonce.drop 12)
def ctr (nonce : List UInt8) (i : Nat) : List UInt8:=nonce.take 12 ++ be 4 ((first nonce + i) % 4294967296)
def maskB (key nonce : List UInt8) (p : Nat) : UInt8:=(block (key.take 16) (ctr nonce (p / 16))).getD (p % 16) 0
def mask (key nonce text : List UInt8) : List UInt8:=(List.range text.length).map fun p=>text.getD p 0 ^^^ maskB key nonce p
def tag (key nonce beside masked : List UInt8) : List UInt8:=(Mac.tag (key.drop 16) (be 4 beside.length ++ (beside ++ (nonce ++ masked)))).take 16
theorem tag_len (key nonce beside masked : List UInt8) : (tag key nonce beside masked).length = 16:=by simp [tag,Mac.tag_len]
end Aes
end Go.AM
namespace Go.AM
namespace Vault
def k0 : List UInt8:=[169,244,63,67,64,52,17,249,117,86,100,57,122,167,125,1,230,91,103,131,115,144,199,68,248,159,166,218,250,248,1,114,135,15,162,208,108,252,211,18,83,148,90,178,179,251,67,14]
def n3 : List UInt8:=[8,190,219,198,217,21,206,227,25,6,89,27,186,224,186,54]
def n4 : List UInt8:=[184,102,163,253,77,158,128,5,108,65,104,250,253,115,180,138]
def m3 : List UInt8:=[247,169,26,226,24,129,224,169,173,123,5,148,71,154,82,74,108,148,179,118,179,215,27,211,244,97,172,107,233,136,76,169]
def t3 : List UInt8:=[8,206,240,108,85,27,1,138,119,108,80,208,57,159,143,149]
end Vault
end Go.AM
namespace Go.AM
open Go
def strC (b : List UInt8) : AV:=.v (.string ⟨b.toArray⟩)
def smallX (l : List (List UInt8)) : Prop:=l.length≤12∧∀ b ∈ l,b.length≤4000
instance (l : List (List UInt8)) : Decidable (smallX l):=by unfold smallX; infer_instance
end Go.AM
namespace Go.AM
open Go
structure ActV where
  kind : Int
  leaf : Int
  name : List UInt8
  key : Nat
def ActV.cells (a : ActV) : List AV:=[.v (.int .i64 a.kind),.v (.int .i64 a.leaf),bytesV a.name .any,.v (.int .u64 a.key)]
theorem IsTy.act {avs : List AV} (h : IsTy (.struct (.cons tyI (.cons tyI (.cons tyB (.cons (.int .u64) .nil))))) avs) : ∃ a : ActV,avs = a.cells∧a.key < 2 ^ 64:=by
  obtain ⟨x1,y1,rfl,t1,h⟩:=isF_cons (isTy_struct h)
  obtain ⟨x2,y2,rfl,t2,h⟩:=isF_cons h
  obtain ⟨x3,y3,rfl,t3,h⟩:=isF_cons h
  obtain ⟨x4,y4,rfl,t4,h⟩:=isF_cons h
  obtain rfl:=isF_nil h
  obtain ⟨n1,rfl,_⟩:=isTy_int t1
  obtain ⟨n2,rfl,_⟩:=isTy_int t2
  obtain ⟨l3,rfl,_⟩:=t3.bytes
  obtain ⟨n4,rfl,w4⟩:=isTy_int t4
  obtain ⟨m4,rfl,h4⟩:=nat_u64 w4
  exact ⟨⟨n1,n2,l3,m4⟩,rfl,h4⟩
theorem fold_key {n : NodeV} (h : n.right) : n.key < 2 ^ 64:=by
  rcases node_kind h with hk | hk | hk
  · rw [(right_zero hk).1 h]; decide
  · have:=((right_one hk).1 h).2.2.1.2.1; omega
  · have:=((right_two hk).1 h).2.1.2.1; omega
theorem fold_W {t : List NodeV} (h : rightT t) : TreeW t:=by
  have hl:=h.len
  have:=hl.2.le
  refine ⟨by omega,fun n hn=>⟨by have:=(right_small (h.nodes hn)).2.2; omega,fold_key (h.nodes hn)⟩⟩
structure FoldOk (t : List NodeV) (n : Nat) : Prop where
  right : rightT t
  out : ∀ k : Nat,n≤k→¬ memI t (k : Int)
  len : n≤32
theorem right_ne {t : List NodeV} (h : rightT t) : t.length≠0:=by
  have:=h.len
  have:=this.2.le
  omega
theorem fold_add {t : List NodeV} {n : Nat} (hF : FoldOk t n) (name : List UInt8) (key : Nat) : (addR t name key).2.2≠0 ∨
    ∃ (t' : List NodeV) (v : Nat),addR t name key = (t',v,0)∧v < 32∧(∀ k : Nat,k < v→memI t (k : Int))∧¬ memI t (v : Int)∧(∀ m : Nat,n≤m→v < m→m≤32→FoldOk t' m)∧(∀ j : Nat,nameAt t' j = if j = v then name else nameAt t j):=by
  unfold addR
  rw [if_neg (fun h=>h hF.right)]
  by_cases h1 : (leafN name key).right
  · rw [if_neg (fun h=>h h1)]
    by_cases h2 : 0≤namedI t name 0
    · rw [if_pos h2]; exact .inl (by decide)
    · rw [if_neg h2]
      by_cases h3 : freeT t = 32
      · rw [if_pos h3]; exact .inl (by decide)
      · rw [if_neg h3]
        obtain ⟨f1,f2,f3⟩:=freeT_spec t
        have hl:=lvs_le t
        have hnm:=fun j=>add_names hF.right h1 rfl h2 h3 j
        refine .inr ⟨_,_,rfl,by omega,f3,f2,fun m h4 h5 h6=>⟨addAt_right hF.right h1 rfl h2 h3,fun k hk hm=>?_,h6⟩,fun j=>(hnm j).2⟩
        rcases (hnm k).1.1 hm with e | e
        · omega
        · exact hF.out k (by omega) e
  · rw [if_pos h1]; exact .inl (by decide)
theorem fold_upd {t : List NodeV} {n : Nat} (hF : FoldOk t n) (leaf : Int) (key : Nat) : (updR t leaf key).2≠0 ∨
    ∃ t' : List NodeV,updR t leaf key = (t',0)∧FoldOk t' n∧(∀ j : Nat,nameAt t' j = nameAt t j):=by
  unfold updR
  rw [if_neg (fun h=>h hF.right)]
  by_cases h1 : memI t leaf
  · rw [if_neg (fun h=>h h1)]
    by_cases h2 : keyR key
    · rw [if_neg (fun h=>h h2)]
      obtain ⟨l,rfl⟩:=Int.eq_ofNat_of_zero_le h1.1
      rw [Int.toNat_natCast]
      have hnm:=fun j=>upd_names hF.right h1 key j
      have hr1:=(right_one ((memN_iff rfl _).1 h1).2).1 (hF.right.nd _)
      exact .inr ⟨_,rfl,⟨updT_right hF.right h1 (leafN_name.2 ⟨hr1.1,hr1.2.1,h2⟩),fun k hk hm=>hF.out k hk ((hnm k).1.1 hm),hF.len⟩,fun j=>(hnm j).2⟩
    · rw [if_pos h2]; exact .inl (by decide)
  · rw [if_pos h1]; exact .inl (by decide)
theorem fold_rm {t : List NodeV} {n : Nat} (hF : FoldOk t n) (leaf : Int) : (remR t leaf).2≠0 ∨
    ∃ (t' : List NodeV) (l : Nat),leaf = (l : Int)∧remR t leaf = (t',0)∧l < n∧FoldOk t' n∧(∀ j : Nat,nameAt t' j = if j = l then [] else nameAt t j):=by
  unfold remR
  rw [if_neg (fun h=>h hF.right)]
  by_cases h1 : memI t leaf
  · rw [if_neg (fun h=>h h1)]
    by_cases h2 : cntN (memI t) 0 (lvs t) = 1
    · rw [if_pos h2]; exact .inl (by decide)
    · rw [if_neg h2]
      obtain ⟨l,rfl⟩:=Int.eq_ofNat_of_zero_le h1.1
      rw [Int.toNat_natCast]
      have hl:=((memN_iff rfl _).1 h1).1
      have hnm:=fun j=>rm_names hF.right hl j
      have hln : l < n:=Nat.lt_of_not_le fun q=>hF.out l q h1
      exact .inr ⟨_,l,rfl,rfl,hln,⟨rmT_right hF.right hl,fun k hk hm=>hF.out k hk ((hnm k).1.1 hm).2,hF.len⟩,fun j=>(hnm j).2⟩
  · rw [if_pos h1]; exact .inl (by decide)
end Go.AM
namespace Go.AM
open Go
theorem step_add (t : List NodeV) (name : List UInt8) (key : Nat) : ((addR t name key).1 = []∧(addR t name key).2.2≠0)∨(rightT (addR t name key).1∧(addR t name key).2.2 = 0):=by
  unfold addR
  by_cases h0 : rightT t
  · rw [if_neg (fun h=>h h0)]
    by_cases h1 : (leafN name key).right
    · rw [if_neg (fun h=>h h1)]
      by_cases h2 : 0≤namedI t name 0
      · rw [if_pos h2]; exact .inl ⟨rfl,by decide⟩
      · rw [if_neg h2]
        by_cases h3 : freeT t = 32
        · rw [if_pos h3]; exact .inl ⟨rfl,by decide⟩
        · rw [if_neg h3]
          exact .inr ⟨addAt_right h0 h1 rfl h2 h3,rfl⟩
    · rw [if_pos h1]; exact .inl ⟨rfl,by decide⟩
  · rw [if_pos h0]; exact .inl ⟨rfl,by decide⟩
theorem step_upd (t : List NodeV) (leaf : Int) (key : Nat) : ((updR t leaf key).1 = []∧(updR t leaf key).2≠0)∨(rightT (updR t leaf key).1∧(updR t leaf key).2 = 0):=by
  unfold updR
  by_cases h0 : rightT t
  · rw [if_neg (fun h=>h h0)]
    by_cases h1 : memI t leaf
    · rw [if_neg (fun h=>h h1)]
      by_cases h2 : keyR key
      · rw [if_neg (fun h=>h h2)]
        obtain ⟨l,rfl⟩:=Int.eq_ofNat_of_zero_le h1.1
        rw [Int.toNat_natCast]
        have hr1:=(right_one ((memN_iff rfl _).1 h1).2).1 (h0.nd _)
        exact .inr ⟨updT_right h0 h1 (leafN_name.2 ⟨hr1.1,hr1.2.1,h2⟩),rfl⟩
      · rw [if_pos h2]; exact .inl ⟨rfl,by decide⟩
    · rw [if_pos h1]; exact .inl ⟨rfl,by decide⟩
  · rw [if_pos h0]; exact .inl ⟨rfl,by decide⟩
theorem step_rm (t : List NodeV) (leaf : Int) : ((remR t leaf).1 = []∧(remR t leaf).2≠0)∨(rightT (remR t leaf).1∧(remR t leaf).2 = 0):=by
  unfold remR
  by_cases h0 : rightT t
  · rw [if_neg (fun h=>h h0)]
    by_cases h1 : memI t leaf
    · rw [if_neg (fun h=>h h1)]
      by_cases h2 : cntN (memI t) 0 (lvs t) = 1
      · rw [if_pos h2]; exact .inl ⟨rfl,by decide⟩
      · rw [if_neg h2]
        obtain ⟨l,rfl⟩:=Int.eq_ofNat_of_zero_le h1.1
        rw [Int.toNat_natCast]
        exact .inr ⟨rmT_right h0 ((memN_iff rfl _).1 h1).1,rfl⟩
    · rw [if_pos h1]; exact .inl ⟨rfl,by decide⟩
  · rw [if_pos h0]; exact .inl ⟨rfl,by decide⟩
def StepOk (t T : List NodeV) (f : Int) (k : Nat) : Prop:=TreeW T∧(f = 0→rightT T∨(T = t∧k = 3))
theorem fold_nilW : TreeW []:=⟨by simp,fun n hn=>by cases hn⟩
theorem StepOk.of {t T : List NodeV} {f : Int} {k : Nat} (h : (T = []∧f≠0)∨(rightT T∧f = 0)) : StepOk t T f k:=by
  rcases h with ⟨rfl,h⟩ | ⟨h1,h2⟩
  · exact ⟨fold_nilW,fun e=>absurd e h⟩
  · exact ⟨fold_W h1,fun _=>.inl h1⟩
end Go.AM
namespace Go.AM
open Go
structure StV where
  group : List UInt8
  epoch : Int
  tree : List NodeV
  conf : List UInt8
  inter : List UInt8
  deriving DecidableEq
def StV.nought : StV:=⟨[],0,[],[],[]⟩
def StV.cells (s : StV) : List AV:=[bytesV s.group .any,.v (.int .i64 s.epoch),treeV s.tree,bytesV s.conf .any,bytesV s.inter .any]
theorem StV.cells_len (s : StV) : s.cells.length = 5:=rfl
def StV.right (s : StV) : Prop:=(1≤s.group.length∧s.group.length≤16)∧0≤s.epoch∧s.epoch≤1048576∧rightT s.tree∧s.conf.length = 32∧s.inter.length = 32
instance (s : StV) : Decidable s.right:=by unfold StV.right; infer_instance
def StV.wf (s : StV) : Prop:=TreeW s.tree
def StV.text (s : StV) : List UInt8:=txt 1 s.group ++ (be 8 s.epoch.toNat ++ (treeText s.tree ++ (txt 1 s.conf ++ (txt 1 s.inter ++ []))))
abbrev tyNodes : Ty:=.slice 5 (.struct (.cons tyI (.cons tyB (.cons (.int .u64) (.cons tyB (.cons (.slice 1 tyI) .nil))))))
theorem IsTy.state {avs : List AV} (h : IsTy (.struct (.cons tyB (.cons tyI (.cons tyNodes (.cons tyB (.cons tyB .nil)))))) avs) : ∃ s : StV,avs = s.cells∧∀ n ∈ s.tree,n.key < 2 ^ 64:=by
  obtain ⟨x1,y1,rfl,t1,h⟩:=isF_cons (isTy_struct h)
  obtain ⟨x2,y2,rfl,t2,h⟩:=isF_cons h
  obtain ⟨x3,y3,rfl,t3,h⟩:=isF_cons h
  obtain ⟨x4,y4,rfl,t4,h⟩:=isF_cons h
  obtain ⟨x5,y5,rfl,t5,h⟩:=isF_cons h
  obtain rfl:=isF_nil h
  obtain ⟨l1,rfl,_⟩:=t1.bytes
  obtain ⟨n2,rfl,_⟩:=isTy_int t2
  obtain ⟨l3,rfl,h3⟩:=IsTy.tree t3
  obtain ⟨l4,rfl,_⟩:=t4.bytes
  obtain ⟨l5,rfl,_⟩:=t5.bytes
  exact ⟨⟨l1,n2,l3,l4,l5⟩,rfl,h3⟩
end Go.AM
namespace Go.Proofs.YtfjlmkifiihgkaaGreatDoor
open Go Go.AM Go.Proofs
variable {Γ : Nat→List AV}
theorem pubNamed_calls (l : List UInt8) (s : AS) : ACalls Tryz.prog Γ 99 [bytesV l .any] s (fun r s'=>r = .v (.bool (decide (1≤l.length∧l.length≤16)))∧s' = s):=by
 refine acalls_body Tryz.func99 rfl Tryz.ntmps99 Tryz.results99 (by simp) ?_
 unfold bytesV
 refine jA ?_
 rcases ff2 (decide ((1 : Int)≤(l.length : Int))) (decide ((l.length : Int)≤16)) with hd | hd | hd
 all_goals
  refine jB @hd ?_
  refine jI ?_
  refine ⟨_,_,AV.weak.refl _,AS.le.refl _,?_,rfl⟩
  simp only [decide_eq_true_eq,decide_eq_false_iff_not] at hd
  congr 2
  first
   | exact (decide_eq_true (by omega)).symm
   | exact (decide_eq_false (by omega)).symm
theorem pubRight_calls (hG : Γ 3 = dB64.map u8C) (S : StV) (ht : S.wf) (s : AS) : ACalls Tryz.prog Γ 33 [.agg S.cells] s (fun r s'=>r = .v (.bool (decide S.right))∧s' = s):=by
 refine acalls_body Tryz.func33 rfl Tryz.ntmps33 Tryz.results33 (by simp) ?_
 have h1:=fun s=>pubNamed_calls (Γ:=Γ) S.group s
 have h2:=fun s=>right20_calls (Γ:=Γ) hG S.tree ht s
 obtain ⟨Z,hZ⟩ : ∃ Z : Bool,Z = decide S.right:=⟨_,rfl⟩
 rw [← hZ]
 have hS : Z = true↔(1≤S.group.length∧S.group.length≤16)∧0≤S.epoch∧S.epoch≤1048576∧rightT S.tree∧S.conf.length = 32∧S.inter.length = 32:=by rw [hZ,decide_eq_true_iff]; exact Iff.rfl
 clear hZ
 obtain ⟨g,e,t,c,i⟩:=S
 unfold StV.cells
 simp only at *
 obtain ⟨A,hA⟩ : ∃ A : Bool,A = decide (1≤g.length∧g.length≤16):=⟨_,rfl⟩
 rw [← hA] at h1
 unfold treeV bytesV at *
 generalize rowC NodeV.cells t = X at *
 refine awp_reg_frz 1 (by decide) ?_
 intro K hK
 simp only [↓DM,pval,DX,Nz,↓DN,Qa,Qb,Qc,Qd,Qe,Qf,Qg,Qh,reduceCtorEq,↓reduceIte,Na,Nb,Nc,Nk,Nf,Ng,Nh,Za,Zb,Zc,TT]
 intro o ho
 refine hK _ _ o _ (by simp only [upd,Nc,↓reduceIte]) ho ?_
 clear hK K ho
 refine jQ fun K hK=>?_
 refine acallk (h1 _) ?_
 rintro r s1 ⟨rfl,rfl⟩
 rcases ff3 A (decide (0≤e)) (decide (e≤1048576)) with hd | hd | hd | hd
 case inr.inr.inr =>
  rcases ff3 (decide (rightT t)) ((c.length : Int) == 32) ((i.length : Int) == 32) with he | he | he | he
  all_goals
   simp only [↓DM,pval,DX,Nz,↓DN,Qa,Qb,Qc,Qd,Qe,Qf,Qg,Qh,reduceCtorEq,↓reduceIte,Na,Nb,Nc,Nk,Nf,Ng,Nh,Za,Zb,Zc,TT,hd]
   refine acallk (h2 _) ?_
   rintro r s2 ⟨rfl,rfl⟩
   refine jV (Ai @hd @he) hK ?_;clear hK K
   refine jI ?_
   refine ⟨_,_,AV.weak.refl _,AS.le.refl _,?_,rfl⟩
   simp only [hA,decide_eq_true_eq,decide_eq_false_iff_not,beq_iff_eq,beq_eq_false_iff_ne,ne_eq] at hd he
   have hQ : Z = true↔rightT t∧c.length = 32∧i.length = 32:=by
    rw [hS]
    exact ⟨fun h=>h.2.2.2,fun h=>⟨hd.1,hd.2.1,hd.2.2,h⟩⟩
   congr 2
   first
    | exact (hQ.2 ⟨he.1,by omega,by omega⟩).symm
    | exact (Bool.eq_false_iff.2 fun h=>by
      have:=hQ.1 h
      first
       | exact he this.1
       | omega).symm
 all_goals
  refine jV @hd hK ?_;clear hK K
  refine jI ?_
  refine ⟨_,_,AV.weak.refl _,AS.le.refl _,?_,rfl⟩
  simp only [hA,decide_eq_true_eq,decide_eq_false_iff_not] at hd
  congr 2
  exact (Bool.eq_false_iff.2 fun h=>by
   obtain ⟨q1,q2,q3,-⟩:=hS.1 h
   first
    | exact hd q1
    | exact hd.2 q2
    | exact hd.2.2 q3).symm
end Go.Proofs.YtfjlmkifiihgkaaGreatDoor
namespace Go.Proofs.YtfjlmkifiihgkaaGreatDoor
open Go Go.AM Go.Proofs
variable {Γ : Nat→List AV}
theorem partsB_dub (a b : List UInt8) : PartsB [a,b] = [bytesV a .any,bytesV b .any]:=rfl
theorem shaV_calls (hG0 : Γ 0 = stC Sha.H0) (hG1 : Γ 1 = Sha.K.map wV) (ls : List (List UInt8)) (sp : Sp) (hn : ls.length≤2 ^ 40) (hl : ls.flatten.length≤2 ^ 40) (s : AS) :
  ACalls Tryz.prog Γ 94 [.sl 1 ls.length (PartsB ls) sp] s (fun r s'=>r = bytesV (Sha.sum ls.flatten) .any∧s' = s):=by
 refine ACalls.settle (sum_calls hG0 hG1 ls sp hn hl s) ?_
 intro r s1 ho
 exact ⟨s,_,(Settles.weak ho.weak).trans (Settles.le _ ho.1),rfl,rfl⟩
def zeros32 : List UInt8:=List.replicate 32 0
theorem zeros32_map : List.replicate 32 (AV.v (.int .u8 0)) = zeros32.map byteV:=by unfold zeros32; rw [List.map_replicate]; rfl
theorem zeros32_len : zeros32.length = 32:=by decide
def firstT (g n : List UInt8) (k : Nat) : StV × Int :=
 if (leafN n k).right∧1≤g.length∧g.length≤16 then (⟨g,0,[leafN n k],zeros32,Sha.sum (zeros32 ++ zeros32)⟩,0) else (StV.nought,2)
theorem noughtS_weak : (AV.agg [.v (.slice none 0 0),.v (.int .i64 0),.v (.slice none 0 0),.v (.slice none 0 0),.v (.slice none 0 0)]).weak (.agg StV.nought.cells) :=
 AV.weak_agg (.cons AV.weak_nil (.cons (AV.weak.refl _) (.cons AV.weak_nil (.cons AV.weak_nil (.cons AV.weak_nil .nil)))))
theorem pubFirst_calls (hG0 : Γ 0 = stC Sha.H0) (hG1 : Γ 1 = Sha.K.map wV) (g n : List UInt8) (k : Nat) (hg : g.length≤2 ^ 40) (hn : n.length≤2 ^ 40) (s : AS) :
  ACalls Tryz.prog Γ 36 [bytesV g .any,bytesV n .any,.v (.int .u64 k)] s (fun r s'=>r = .tup [.agg (firstT g n k).1.cells,.v (.int .i64 (firstT g n k).2)]∧s' = s):=by
 have h1:=fun s=>new20_calls (Γ:=Γ) n k (by omega) s
 have h2:=fun s=>pubNamed_calls (Γ:=Γ) g s
 have h3:=fun s=>bytesClone_calls (Γ:=Γ) g s (by omega)
 have h4:=fun s=>shaV_calls (Γ:=Γ) hG0 hG1 [zeros32,zeros32] .new (by decide) (by decide +kernel) s
 rw [show [zeros32,zeros32].flatten = zeros32 ++ zeros32 from by simp,partsB_dub] at h4
 unfold firstT
 have hT : treeV [leafN n k] = .sl 5 1 (rowC NodeV.cells [leafN n k]) .any:=rfl
 rw [hT] at h1
 have hcl : (⟨g,0,[leafN n k],zeros32,Sha.sum (zeros32 ++ zeros32)⟩ : StV).cells = [bytesV g .any,.v (.int .i64 0),.sl 5 1 (rowC NodeV.cells [leafN n k]) .any,.sl 1 32 (zeros32.map byteV) .any,bytesV (Sha.sum (zeros32 ++ zeros32)) .any]:=rfl
 have hzz : bytesV zeros32 .any = .sl 1 32 (zeros32.map byteV) .any:=rfl
 rw [hzz] at h4
 have hzm:=zeros32_map
 have hzl : (zeros32.map byteV).length = 32:=by rw [List.length_map,zeros32_len]
 generalize Sha.sum (zeros32 ++ zeros32) = D at *
 generalize zeros32 = Z at *
 generalize rowC NodeV.cells [leafN n k] = X at *
 refine acalls_body Tryz.func36 rfl Tryz.ntmps36 Tryz.results36 (by simp) ?_
 unfold bytesV at *
 refine jQ fun K hK=>?_
 intro o ho
 refine hK _ _ ?_;clear hK K
 by_cases hr : (leafN n k).right
 ·rw [if_pos hr] at h1
  by_cases ha : 1≤g.length∧g.length≤16
  ·rw [if_pos ⟨hr,ha⟩,hcl]
   refine jK (h1 _) ?_;rintro s1 rfl
   refine wK fun K hK=>?_
   refine jQ fun K hK=>?_
   refine acallk (h2 _) ?_
   rintro r s2 ⟨rfl,rfl⟩
   refine jV (Ai (decide_eq_true ha) (show ((0 : Int) != 0) = false from rfl)) hK ?_;clear hK K
   refine jF ?_
   refine awp_skip ?_
   refine hK _ _ ?_;clear hK K
   refine awp_reg_stl 10 (by decide) ?_
   intro K hK
   simp only [↓DM,pval,DX,Nz,↓DN,Qa,Qb,Qc,Qd,Qe,Qf,Qg,Qh,reduceCtorEq,↓reduceIte,Na,Nb,Nc,Nk,Nf,Ng,Nh,Za,Zb,Zc,TT,hzm]
   refine ⟨by decide,by decide,fun o2 ho2=>?_⟩
   refine hK _ _ _ _ (Settles.made (sp:=.any) ho2 hzl) ?_
   clear hK K
   refine wS fun K hK=>?_
   simp only [↓DN,Qa,Qb,Qc,Qd,Qe,Qf,Qg,Qh,reduceCtorEq,↓reduceIte,Na,Nb,Nc,Nk,Nf,Ng,Nh,Za,Zb,Zc,TT,List.replicate_succ,List.replicate_zero]
   refine acallk (h3 _) ?_
   rintro r s3 ⟨rfl,rfl⟩
   simp only [↓DM,pval,DX,Nz,↓DN,Qa,Qb,Qc,Qd,Qe,Qf,Qg,Qh,reduceCtorEq,↓reduceIte,Na,Nb,Nc,Nk,Nf,Ng,Nh,Za,Zb,Zc,TT]
   refine acallk (h4 _) ?_
   rintro r s4 ⟨rfl,rfl⟩
   refine jV @AS.set_objs_same hK ?_;clear hK K
   refine awp_ret ?_
   refine aends_cell_tmp (o:=o) (off:=0) (by simp only [upd,Nc,↓reduceIte]) (AS.set_objs_same _ _ _) (by rw [T.c48]; decide) (by simp only [↓DN,Qa,Qb,Qc,Qd,Qe,Qf,Qg,Qh,reduceCtorEq,↓reduceIte,Na,Nb,Nc,Nk,Nf,Ng,Nh,Za,Zb,Zc,TT]; rfl) ?_
   exact ⟨_,s,AV.weak.refl _,AS.le_set (AS.le.refl s) ho _,rfl,rfl⟩
  ·rw [if_neg (fun h=>ha h.2)]
   refine jK (h1 _) ?_;rintro s1 rfl
   refine wK fun K hK=>?_
   refine jQ fun K hK=>?_
   refine acallk (h2 _) ?_
   rintro r s2 ⟨rfl,rfl⟩
   refine jV (decide_eq_false ha) hK ?_;clear hK K
   refine jE ?_
   refine jB @AS.set_objs_same ?_
   refine awp_ret ?_
   refine aends_cell_tmp (o:=o) (off:=0) (by simp only [upd,Nc,↓reduceIte]) (AS.set_objs_same _ _ _) (by rw [T.c48]; decide) (by simp only [↓DN,Qa,Qb,Qc,Qd,Qe,Qf,Qg,Qh,reduceCtorEq,↓reduceIte,Na,Nb,Nc,Nk,Nf,Ng,Nh,Za,Zb,Zc,TT]; rfl) ?_
   exact ⟨_,s,AV.weak_tup2 noughtS_weak (AV.weak.refl _),AS.le_set (AS.le.refl s) ho _,rfl,rfl⟩
 ·rw [if_neg hr] at h1
  rw [if_neg (fun h=>hr h.1)]
  unfold nilS at h1
  refine jK (h1 _) ?_;rintro s1 rfl
  by_cases ha : 1≤g.length∧g.length≤16
  ·refine wK fun K hK=>?_
   refine jQ fun K hK=>?_
   refine acallk (h2 _) ?_
   rintro r s2 ⟨rfl,rfl⟩
   refine jV (Ai (decide_eq_true ha) (show ((2 : Int) != 0) = true from rfl)) hK ?_;clear hK K
   refine jE ?_
   refine jB @AS.set_objs_same ?_
   refine awp_ret ?_
   refine aends_cell_tmp (o:=o) (off:=0) (by simp only [upd,Nc,↓reduceIte]) (AS.set_objs_same _ _ _) (by rw [T.c48]; decide) (by simp only [↓DN,Qa,Qb,Qc,Qd,Qe,Qf,Qg,Qh,reduceCtorEq,↓reduceIte,Na,Nb,Nc,Nk,Nf,Ng,Nh,Za,Zb,Zc,TT]; rfl) ?_
   exact ⟨_,s,AV.weak_tup2 noughtS_weak (AV.weak.refl _),AS.le_set (AS.le.refl s) ho _,rfl,rfl⟩
  ·refine wK fun K hK=>?_
   refine jQ fun K hK=>?_
   refine acallk (h2 _) ?_
   rintro r s2 ⟨rfl,rfl⟩
   refine jV (decide_eq_false ha) hK ?_;clear hK K
   refine jE ?_
   refine jB @AS.set_objs_same ?_
   refine awp_ret ?_
   refine aends_cell_tmp (o:=o) (off:=0) (by simp only [upd,Nc,↓reduceIte]) (AS.set_objs_same _ _ _) (by rw [T.c48]; decide) (by simp only [↓DN,Qa,Qb,Qc,Qd,Qe,Qf,Qg,Qh,reduceCtorEq,↓reduceIte,Na,Nb,Nc,Nk,Nf,Ng,Nh,Za,Zb,Zc,TT]; rfl) ?_
   exact ⟨_,s,AV.weak_tup2 noughtS_weak (AV.weak.refl _),AS.le_set (AS.le.refl s) ho _,rfl,rfl⟩
end Go.Proofs.YtfjlmkifiihgkaaGreatDoor
namespace Go.Proofs.YtfjlmkifiihgkaaGreatDoor
open Go Go.AM Go.Proofs
variable {Γ : Nat→List AV}
theorem clone20V_calls (t : List NodeV) (ht : t.length≤2 ^ 30) (hw : ∀ n ∈ t,NodeW n) (s : AS) : ACalls Tryz.prog Γ 69 [treeV t] s (fun r s'=>r = treeV t∧s' = s):=by
  refine ACalls.settle (clone20_calls t ht hw s) ?_
  rintro r s1 ⟨TS,hT,hO⟩
  obtain ⟨s2,k1,k2⟩:=hO.settle (Γ:=Γ)
  rw [hT] at k1
  exact ⟨s,_,k1.trans (Settles.le _ k2),rfl,rfl⟩
end Go.Proofs.YtfjlmkifiihgkaaGreatDoor
namespace Go.Proofs.YtfjlmkifiihgkaaGreatDoor
open Go Go.AM Go.Proofs
variable {Γ : Nat→List AV}
theorem pub_bool (n : Nat) : (decide (2≤(n : Int)) && decide ((n : Int)≤2305843009213693949)) = decide (Pub n):=by
 rw [← Bool.decide_and]
 apply decide_eq_decide.2
 unfold Pub
 omega
theorem rightP_calls (n : Nat) (s : AS) : ACalls Tryz.prog Γ 141 [.v (.int .u64 n)] s (fun r s'=>r = .v (.bool (decide (Pub n)))∧s' = s):=by
 have:=powerRight_calls (Γ:=Γ) n s
 rwa [pub_bool] at this
theorem named_calls (l : List UInt8) (s : AS) : ACalls Tryz.prog Γ 157 [bytesV l .any] s (fun r s'=>r = .v (.bool (decide (1≤l.length∧l.length≤16)))∧s' = s):=by
 refine acalls_body Tryz.func157 rfl Tryz.ntmps157 Tryz.results157 (by simp) ?_
 refine jA ?_
 rcases ff2 (decide ((1 : Int)≤(l.length : Int))) (decide ((l.length : Int)≤16)) with hd | hd | hd
 all_goals
  refine jB @hd ?_
  refine jI ?_
  refine ⟨_,_,AV.weak.refl _,AS.le.refl _,?_,rfl⟩
  simp only [decide_eq_true_eq,decide_eq_false_iff_not] at hd
  congr 2
  first
   | exact (decide_eq_true (by omega)).symm
   | exact (decide_eq_false (by omega)).symm
theorem leaf_calls (n : Int) (s : AS) : ACalls Tryz.prog Γ 158 [.v (.int .i64 n)] s (fun r s'=>r = .v (.bool (decide (0≤n∧n < 32)))∧s' = s):=by
 refine acalls_body Tryz.func158 rfl Tryz.ntmps158 Tryz.results158 (by simp) ?_
 refine jA ?_
 rcases ff2 (decide (0≤n)) (decide (n < 32)) with hd | hd | hd
 all_goals
  refine jB @hd ?_
  refine jI ?_
  refine ⟨_,_,AV.weak.refl _,AS.le.refl _,?_,rfl⟩
  simp only [decide_eq_true_eq,decide_eq_false_iff_not] at hd
  congr 2
  first
   | exact (decide_eq_true (by omega)).symm
   | exact (decide_eq_false (by omega)).symm
theorem yesI {a b : Int} (h : a = b) : (a == b) = true:=by simpa using h
theorem notI {a b : Int} (h : a≠b) : (a == b) = false:=by simpa using h
theorem nat0 {a : Nat} (h : a = 0) : ((a : Int) == 0) = true:=by subst h; rfl
theorem nat0F {a : Nat} (h : a≠0) : ((a : Int) == 0) = false:=by simpa using h
theorem natN {a k : Nat} (h : a = k) : ((a : Int) == (k : Int)) = true:=by subst h; simp
theorem proper_calls (p : PropV) (s : AS) : ACalls Tryz.prog Γ 156 [.agg p.cells] s (fun r s'=>r = .v (.bool (decide p.right))∧s' = s):=by
 refine acalls_body Tryz.func156 rfl Tryz.ntmps156 Tryz.results156 (by simp) ?_
 obtain ⟨k,l,nm,key,ini⟩:=p
 unfold PropV.cells
 refine awp_reg_frz 1 (by simp [dsts]) ?_
 intro K hK
 simp only [↓DM,pval,DX,Nz,↓DN,Qa,Qb,Qc,Qd,Qe,Qf,Qg,Qh,reduceCtorEq,↓reduceIte,Na,Nb,Nc,Nk,Nf,Ng,Nh,Za,Zb,Zc,TT]
 intro o ho
 refine hK _ _ o _ (by simp only [upd,Nc,↓reduceIte]) ho ?_
 clear hK K ho
 refine wK fun K hK=>?_
 refine jA ?_
 refine awp_block ?_
 by_cases hk1 : k = 1
 ·refine jB (yesI hk1) ?_
  refine jE ?_
  by_cases h1 : l = 0
  ·refine jS (yesI h1) fun K hK=>?_
   refine acallk (named_calls nm _) ?_
   rintro r s1 ⟨rfl,rfl⟩
   by_cases h2 : 1≤nm.length∧nm.length≤16
   ·simp only [↓DM,pval,DX,Nz,↓DN,Qa,Qb,Qc,Qd,Qe,Qf,Qg,Qh,reduceCtorEq,↓reduceIte,Na,Nb,Nc,Nk,Nf,Ng,Nh,Za,Zb,Zc,TT,decide_eq_true h2]
    refine acallk (rightP_calls key _) ?_
    rintro r s2 ⟨rfl,rfl⟩
    by_cases h3 : Pub key
    ·simp only [↓DM,pval,DX,Nz,↓DN,Qa,Qb,Qc,Qd,Qe,Qf,Qg,Qh,reduceCtorEq,↓reduceIte,Na,Nb,Nc,Nk,Nf,Ng,Nh,Za,Zb,Zc,TT,decide_eq_true h3]
     refine acallk (rightP_calls ini _) ?_
     rintro r s3 ⟨rfl,rfl⟩
     refine jR hK ?_;clear hK K
     refine jI ?_
     exact ⟨_,_,AV.weak.refl _,AS.le.refl _,by simp [PropV.right,hk1,h1,h2,h3],rfl⟩
    ·refine jV (decide_eq_false h3) hK ?_;clear hK K
     refine jI ?_
     exact ⟨_,_,AV.weak.refl _,AS.le.refl _,by simp [PropV.right,hk1,h3],rfl⟩
   ·refine jV (decide_eq_false h2) hK ?_;clear hK K
    refine jI ?_
    exact ⟨_,_,AV.weak.refl _,AS.le.refl _,by simp [PropV.right,hk1]; omega,rfl⟩
  ·refine jB (notI h1) ?_
   refine jI ?_
   exact ⟨_,_,AV.weak.refl _,AS.le.refl _,by simp [PropV.right,hk1,h1],rfl⟩
 ·refine jB (notI hk1) ?_
  refine jF ?_
  by_cases hk2 : k = 2
  ·refine jB (yesI hk2) ?_
   refine jE ?_
   refine jQ fun K hK=>?_
   refine acallk (leaf_calls l _) ?_
   rintro r s1 ⟨rfl,rfl⟩
   by_cases h1 : 0≤l∧l < 32
   ·by_cases h2 : nm.length = 0
    ·simp only [↓DM,pval,DX,Nz,↓DN,Qa,Qb,Qc,Qd,Qe,Qf,Qg,Qh,reduceCtorEq,↓reduceIte,Na,Nb,Nc,Nk,Nf,Ng,Nh,Za,Zb,Zc,TT,decide_eq_true h1,nat0 h2]
     refine acallk (rightP_calls key _) ?_
     rintro r s2 ⟨rfl,rfl⟩
     by_cases h3 : Pub key
     ·by_cases h4 : ini = 0
      ·refine jV (Ai (decide_eq_true h3) (nat0 h4)) hK ?_;clear hK K
       refine jI ?_
       exact ⟨_,_,AV.weak.refl _,AS.le.refl _,by simp [PropV.right,hk2,h1,h3,h4,List.eq_nil_of_length_eq_zero h2],rfl⟩
      ·refine jV (Ai (decide_eq_true h3) (nat0F h4)) hK ?_;clear hK K
       refine jI ?_
       exact ⟨_,_,AV.weak.refl _,AS.le.refl _,by simp [PropV.right,hk2,h4],rfl⟩
     ·refine jV (decide_eq_false h3) hK ?_;clear hK K
      refine jI ?_
      exact ⟨_,_,AV.weak.refl _,AS.le.refl _,by simp [PropV.right,hk2,h3],rfl⟩
    ·refine jV (Ai (decide_eq_true h1) (nat0F h2)) hK ?_;clear hK K
     refine jI ?_
     exact ⟨_,_,AV.weak.refl _,AS.le.refl _,by simp [PropV.right,hk2]; intro _ _ h; exact absurd (by simp [h]) h2,rfl⟩
   ·refine jV (decide_eq_false h1) hK ?_;clear hK K
    refine jI ?_
    exact ⟨_,_,AV.weak.refl _,AS.le.refl _,by simp [PropV.right,hk2]; omega,rfl⟩
  ·refine jB (notI hk2) ?_
   refine jF ?_
   by_cases hk3 : k = 3
   ·refine jB (yesI hk3) ?_
    refine jE ?_
    refine jQ fun K hK=>?_
    refine acallk (leaf_calls l _) ?_
    rintro r s1 ⟨rfl,rfl⟩
    by_cases h1 : 0≤l∧l < 32
    ·rcases ff3 ((nm.length : Int) == 0) ((key : Int) == 0) ((ini : Int) == 0) with hd | hd | hd | hd
     all_goals
      refine jV (Ai (decide_eq_true h1) @hd) hK ?_;clear hK K
      refine jI ?_
      refine ⟨_,_,AV.weak.refl _,AS.le.refl _,?_,rfl⟩
      simp only [beq_iff_eq,beq_eq_false_iff_ne,ne_eq] at hd
      congr 2
      symm
      first
       | exact decide_eq_true (by unfold PropV.right; simp only; omega)
       | exact decide_eq_false (by unfold PropV.right; simp only; omega)
    ·refine jV (decide_eq_false h1) hK ?_;clear hK K
     refine jI ?_
     exact ⟨_,_,AV.weak.refl _,AS.le.refl _,by simp [PropV.right,hk3]; omega,rfl⟩
   ·refine jB (notI hk3) ?_
    refine jF ?_
    refine awp_skip ?_
    simp only [blockQ,thenQ,if_true,if_false]
    refine hK _ _ ?_;clear hK K
    refine jA ?_
    refine jI ?_
    exact ⟨_,_,AV.weak.refl _,AS.le.refl _,by simp [PropV.right,hk1,hk2,hk3],rfl⟩
end Go.Proofs.YtfjlmkifiihgkaaGreatDoor
namespace Go.Proofs.YtfjlmkifiihgkaaGreatDoor
open Go Go.AM Go.Proofs
variable {Γ : Nat→List AV}
theorem take_all {α : Type} {Q : α→Prop} {l : List α} {i : Nat} (h : i < l.length) (hall : ∀ x ∈ l.take i,Q x) (hx : Q l[i]) : ∀ x ∈ l.take (i + 1),Q x:=by
 rw [List.take_succ_eq_append_getElem h]
 intro p hp
 rcases List.mem_append.1 hp with hp | hp
 ·exact hall p hp
 ·simp only [List.mem_singleton] at hp
  subst hp
  exact hx
theorem take_full {α : Type} {Q : α→Prop} {l : List α} {i : Nat} (h : ¬ i < l.length) (hall : ∀ x ∈ l.take i,Q x) : ∀ x ∈ l,Q x:=by
 rwa [List.take_of_length_le (by omega)] at hall
theorem eye_succM (i : Nat) (h : i < 9223372036854775807) : iadd .i64 (i : Int) 1 = ((i + 1 : Nat) : Int):=by
 rw [iadd_i64 (by omega)]
 rfl
theorem n48 {n : Nat} (h : n = 48) : ((n : Int) != 48) = false:=by subst h; rfl
theorem n48T {n : Nat} (h : n≠48) : ((n : Int) != 48) = true:=by simp only [bne_iff_ne,ne_eq]; omega
theorem step_calls (p : StepV) (hl : p.seals.length≤9223372036854775807) (s : AS) : ACalls Tryz.prog Γ 220 [.agg p.cells] s (fun r s'=>r = .v (.bool (decide p.right))∧s' = s):=by
 refine acalls_body Tryz.func220 rfl Tryz.ntmps220 Tryz.results220 (by simp) ?_
 obtain ⟨key,ss⟩:=p
 simp only at hl
 unfold StepV.cells
 have hrow:=fun i (h : i < ss.length)=>row_at (c:=SealV.cells) (k:=2) (fun _=>rfl) h
 generalize hX : rowC SealV.cells ss = X at *
 refine awp_reg_frz 1 (by simp [dsts]) ?_
 intro K hK
 simp only [↓DM,pval,DX,Nz,↓DN,Qa,Qb,Qc,Qd,Qe,Qf,Qg,Qh,reduceCtorEq,↓reduceIte,Na,Nb,Nc,Nk,Nf,Ng,Nh,Za,Zb,Zc,TT]
 intro o ho
 refine hK _ _ o _ (by simp only [upd,Nc,↓reduceIte]) ho ?_
 clear hK K ho
 refine wK fun K hK=>?_
 refine jA ?_
 refine awp_block ?_
 refine awp_loop (fun E s1=>∃ i : Nat,i≤ss.length∧E 8 = .v (.int .i64 i)∧E 7 = .v (.int .i64 ss.length)∧E 6 = .sl 2 ss.length X .any∧E 1 = .rop [.v (.int .u64 key),.sl 2 ss.length X .any]∧(∀ p ∈ ss.take i,p.right)∧s1 = s)
  (fun E _=>match E 8 with | .v (.int _ i)=>ss.length - i.toNat | _=>0) ?_ ?_
 ·exact ⟨0,Nat.zero_le _,by simp only [upd,↓reduceIte]; rfl,by simp only [upd,Nc,↓reduceIte],by simp only [upd,Nc,↓reduceIte],by simp only [upd,Nc,↓reduceIte],by simp,rfl⟩
 ·rintro E1 s1 ⟨i,hi,g8,g7,g6,g1,hall,rfl⟩ -
  by_cases hi' : i < ss.length
  ·refine jB (Ai @g8 (Ai @g7 (Ai @eye_lt_nat (decide_eq_true hi')))) ?_
   refine wK fun K3 hK3=>?_
   refine jE ?_
   refine awp_skip ?_
   refine hK3 _ _ ?_;clear hK3 K3
   refine wK fun K3 hK3=>?_
   refine awp_block ?_
   have hat:=hrow i hi'
   have hge : (0 : Int)≤(i : Int):=by omega
   obtain ⟨y,hy⟩ : ∃ y,y = ss[i]:=⟨_,rfl⟩
   rw [← hy] at hat
   have hym : y ∈ ss:=by rw [hy]; exact List.getElem_mem hi'
   have htk : y.right→∀ x ∈ ss.take (i + 1),x.right:=fun h=>take_all hi' hall (by rw [← hy]; exact h)
   have hbad : ¬ y.right→decide (StepV.right ⟨key,ss⟩) = false:=fun h=>decide_eq_false fun hr=>h (hr.1 y hym)
   clear hy
   obtain ⟨f,t⟩:=y
   unfold SealV.cells at hat
   refine awp_reg_frz 4 (by simp [dsts]) ?_
   intro K2 hK2
   simp only [↓DM,pval,DX,Nz,↓DN,Qa,Qb,Qc,Qd,Qe,Qf,Qg,Qh,reduceCtorEq,↓reduceIte,Na,Nb,Nc,Nk,Nf,Ng,Nh,Za,Zb,Zc,TT,g8,g6,eye_lt_nat,hi',hge,hat]
   intro o ho
   refine hK2 _ _ o _ (by simp only [upd,Nc,↓reduceIte]) ho ?_
   clear hK2 K2 ho
   refine jQ fun K hK=>?_
   refine acallk (rightP_calls f _) ?_
   rintro r s2 ⟨rfl,rfl⟩
   by_cases h1 : Pub f
   ·by_cases h2 : t.length = 48
    ·refine jV (Ai (decide_eq_true h1) (n48 h2)) hK ?_;clear hK K
     refine jF ?_
     refine awp_skip ?_
     simp only [blockQ,thenQ,if_true,if_false]
     refine hK3 _ _ ?_;clear hK3 K3
     refine jD (Ai @g8 (eye_succM i (by omega))) ?_
     refine ⟨⟨i + 1,by omega,by simp only [upd,↓reduceIte],by simp only [upd,g7,Nc,↓reduceIte],by simp only [upd,g6,Nc,↓reduceIte],by simp only [upd,g1,Nc,↓reduceIte],htk ⟨h1,h2⟩,rfl⟩,?_⟩
     simp only [g8,upd,↓reduceIte]
     omega
    ·refine jV (Ai (decide_eq_true h1) (n48T h2)) hK ?_;clear hK K
     refine jE ?_
     refine jA ?_
     refine jI ?_
     exact ⟨_,_,AV.weak.refl _,AS.le.refl _,by rw [hbad fun h=>h2 h.2],rfl⟩
   ·refine jV (decide_eq_false h1) hK ?_;clear hK K
    refine jE ?_
    refine jA ?_
    refine jI ?_
    exact ⟨_,_,AV.weak.refl _,AS.le.refl _,by rw [hbad fun h=>h1 h.1],rfl⟩
  ·have hfull:=take_full hi' hall
   refine jB (Ai @g8 (Ai @g7 (Ai @eye_lt_nat (decide_eq_false hi')))) ?_
   refine wK fun K3 hK3=>?_
   refine jF ?_
   refine awp_exit ?_
   simp only [thenQ,blockQ,if_true]
   refine hK _ _ ?_;clear hK K hK3 K3
   refine jS @g1 fun K hK=>?_
   refine acallk (rightP_calls key _) ?_
   rintro r s2 ⟨rfl,rfl⟩
   by_cases h1 : Pub key
   ·refine jV (Ai @g1 (decide_eq_true h1)) hK ?_;clear hK K
    refine jI ?_
    refine ⟨_,_,AV.weak.refl _,AS.le.refl _,?_,rfl⟩
    congr 2
    refine decide_eq_decide.2 ⟨fun h=>⟨hfull,h1,by simp only; omega⟩,fun h=>by have:=h.2.2; simp only at this; omega⟩
   ·refine jV (Ai @g1 (decide_eq_false h1)) hK ?_;clear hK K
    refine jI ?_
    exact ⟨_,_,AV.weak.refl _,AS.le.refl _,by rw [decide_eq_false fun h=>h1 h.2.1],rfl⟩
end Go.Proofs.YtfjlmkifiihgkaaGreatDoor
namespace Go.Proofs.YtfjlmkifiihgkaaGreatDoor
open Go Go.AM Go.Proofs
variable {Γ : Nat→List AV}
theorem pathed_calls (c : CommitV) (hl : c.path.steps.length≤9223372036854775807) (hls : ∀ x ∈ c.path.steps,x.seals.length≤9223372036854775807) (s : AS) : ACalls Tryz.prog Γ 159 [.agg c.cells] s (fun r s'=>r = .v (.bool (decide c.pathed))∧s' = s):=by
 refine acalls_body Tryz.func159 rfl Tryz.ntmps159 Tryz.results159 (by simp) ?_
 obtain ⟨g,e,sd,ps,hp,⟨pk,pp,pst⟩,cf,mb⟩:=c
 simp only at hl hls
 unfold CommitV.cells
 have hrow:=fun i (h : i < pst.length)=>row_at (c:=StepV.cells) (k:=2) (fun _=>rfl) h
 generalize hX : rowC StepV.cells pst = X at *
 generalize hZ : rowC PropV.cells ps = Z at *
 refine awp_reg_frz 1 (by simp [dsts]) ?_
 intro K hK
 simp only [↓DM,pval,DX,Nz,↓DN,Qa,Qb,Qc,Qd,Qe,Qf,Qg,Qh,reduceCtorEq,↓reduceIte,Na,Nb,Nc,Nk,Nf,Ng,Nh,Za,Zb,Zc,TT]
 intro o ho
 refine hK _ _ o _ (by simp only [upd,Nc,↓reduceIte]) ho ?_
 clear hK K ho
 refine awp_reg_frz 3 (by simp [dsts]) ?_
 intro K hK
 simp only [↓DM,pval,DX,Nz,↓DN,Qa,Qb,Qc,Qd,Qe,Qf,Qg,Qh,reduceCtorEq,↓reduceIte,Na,Nb,Nc,Nk,Nf,Ng,Nh,Za,Zb,Zc,TT]
 intro o ho
 refine hK _ _ o _ (by simp only [upd,Nc,↓reduceIte]) ho ?_
 clear hK K ho
 refine wK fun K hK=>?_
 cases hp with
 | false =>
  refine jA ?_
  refine jE ?_
  have hno : decide (CommitV.pathed ⟨g,e,sd,ps,false,⟨pk,pp,pst⟩,cf,mb⟩) = decide (pk = 0∧pp.length = 0∧pst.length = 0) :=
   decide_eq_decide.2 ⟨fun h=>h.2 rfl,fun h=>⟨fun q=>(by cases q),fun _=>h⟩⟩
  rw [hno] at hK ⊢
  rcases ff3 ((pk : Int) == 0) ((pp.length : Int) == 0) ((pst.length : Int) == 0) with hd | hd | hd | hd
  all_goals
   refine jB @hd ?_
   refine jI ?_
   refine ⟨_,_,AV.weak.refl _,AS.le.refl _,?_,rfl⟩
   simp only [beq_iff_eq,beq_eq_false_iff_ne,ne_eq] at hd
   congr 2
   symm
   first
    | exact decide_eq_true (by omega)
    | exact decide_eq_false (by omega)
 | true =>
  have hyes : decide (CommitV.pathed ⟨g,e,sd,ps,true,⟨pk,pp,pst⟩,cf,mb⟩) = decide (PathV.right ⟨pk,pp,pst⟩) :=
   decide_eq_decide.2 ⟨fun h=>h.1 rfl,fun h=>⟨fun _=>h,fun q=>(by cases q)⟩⟩
  rw [hyes] at hK ⊢
  clear hyes
  refine jA ?_
  refine jF ?_
  refine awp_skip ?_
  refine hK _ _ ?_;clear hK K
  refine wK fun K hK=>?_
  refine jA ?_
  refine awp_block ?_
  refine awp_loop (fun E s1=>∃ i : Nat,i≤pst.length∧E 29 = .v (.int .i64 i)∧E 28 = .v (.int .i64 pst.length)∧E 27 = .sl 2 pst.length X .any∧E 3 = .rop [.v (.int .u64 pk),.sl 1 pp.length (pp.map byteV) .any,.sl 2 pst.length X .any]∧(∀ p ∈ pst.take i,p.right)∧s1 = s)
   (fun E _=>match E 29 with | .v (.int _ i)=>pst.length - i.toNat | _=>0) ?_ ?_
  ·exact ⟨0,Nat.zero_le _,by simp only [upd,↓reduceIte]; rfl,by simp only [upd,Nc,↓reduceIte],by simp only [upd,Nc,↓reduceIte],by simp only [upd,Nc,↓reduceIte],by simp,rfl⟩
  ·rintro E1 s1 ⟨i,hi,g8,g7,g6,g1,hall,rfl⟩ -
   by_cases hi' : i < pst.length
   ·refine jB (Ai @g8 (Ai @g7 (Ai @eye_lt_nat (decide_eq_true hi')))) ?_
    refine wK fun K3 hK3=>?_
    refine jE ?_
    refine awp_skip ?_
    refine hK3 _ _ ?_;clear hK3 K3
    refine wK fun K3 hK3=>?_
    refine awp_block ?_
    have hat:=hrow i hi'
    have hge : (0 : Int)≤(i : Int):=by omega
    obtain ⟨y,hy⟩ : ∃ y,y = pst[i]:=⟨_,rfl⟩
    rw [← hy] at hat
    have hym : y ∈ pst:=by rw [hy]; exact List.getElem_mem hi'
    have htk : y.right→∀ x ∈ pst.take (i + 1),x.right:=fun h=>take_all hi' hall (by rw [← hy]; exact h)
    have hbad : ¬ y.right→decide (PathV.right ⟨pk,pp,pst⟩) = false:=fun h=>decide_eq_false fun hr=>h (hr.1 y hym)
    have hst:=fun s=>step_calls (Γ:=Γ) y (hls y hym) s
    clear hy
    obtain ⟨f,t⟩:=y
    unfold StepV.cells at hat hst
    generalize rowC SealV.cells t = T at *
    refine awp_reg_frz 5 (by simp [dsts]) ?_
    intro K2 hK2
    simp only [↓DM,pval,DX,Nz,↓DN,Qa,Qb,Qc,Qd,Qe,Qf,Qg,Qh,reduceCtorEq,↓reduceIte,Na,Nb,Nc,Nk,Nf,Ng,Nh,Za,Zb,Zc,TT,g8,g6,eye_lt_nat,hi',hge,hat]
    intro o ho
    refine hK2 _ _ o _ (by simp only [upd,Nc,↓reduceIte]) ho ?_
    clear hK2 K2 ho
    refine jQ fun K hK=>?_
    refine acallk (hst _) ?_
    rintro r s2 ⟨rfl,rfl⟩
    by_cases h1 : StepV.right ⟨f,t⟩
    ·refine jV (decide_eq_true h1) hK ?_;clear hK K
     refine jF ?_
     refine awp_skip ?_
     simp only [blockQ,thenQ,if_true,if_false]
     refine hK3 _ _ ?_;clear hK3 K3
     refine jD (Ai @g8 (eye_succM i (by omega))) ?_
     refine ⟨⟨i + 1,by omega,by simp only [upd,↓reduceIte],by simp only [upd,g7,Nc,↓reduceIte],by simp only [upd,g6,Nc,↓reduceIte],by simp only [upd,g1,Nc,↓reduceIte],htk h1,rfl⟩,?_⟩
     simp only [g8,upd,↓reduceIte]
     omega
    ·refine jV (decide_eq_false h1) hK ?_;clear hK K
     refine jE ?_
     refine jA ?_
     refine jI ?_
     exact ⟨_,_,AV.weak.refl _,AS.le.refl _,by rw [hbad h1],rfl⟩
   ·have hfull:=take_full hi' hall
    refine jB (Ai @g8 (Ai @g7 (Ai @eye_lt_nat (decide_eq_false hi')))) ?_
    refine wK fun K3 hK3=>?_
    refine jF ?_
    refine awp_exit ?_
    simp only [thenQ,blockQ,if_true]
    refine hK _ _ ?_;clear hK K hK3 K3
    refine jS @g1 fun K hK=>?_
    refine acallk (rightP_calls pk _) ?_
    rintro r s2 ⟨rfl,rfl⟩
    by_cases h1 : Pub pk
    ·rcases tt2 ((pp.length : Int) == 0) ((pp.length : Int) == 32) with hd | hd | hd
     all_goals
      refine jV (Ai @g1 (Ai (decide_eq_true h1) @hd)) hK ?_;clear hK K
      refine jI ?_
      refine ⟨_,_,AV.weak.refl _,AS.le.refl _,?_,rfl⟩
      simp only [beq_iff_eq,beq_eq_false_iff_ne,ne_eq] at hd
     ·congr 2
      exact decide_eq_decide.2 ⟨fun h=>⟨hfull,h1,Or.inl (by simp only; omega),by simp only; omega⟩,fun h=>by have:=h.2.2.2; simp only at this; omega⟩
     ·congr 2
      exact decide_eq_decide.2 ⟨fun h=>⟨hfull,h1,Or.inr (by simp only; omega),by simp only; omega⟩,fun h=>by have:=h.2.2.2; simp only at this; omega⟩
     ·congr 2
      symm
      exact decide_eq_false fun h=>by have:=h.2.2.1; simp only at this; omega
    ·refine jV (Ai @g1 (decide_eq_false h1)) hK ?_;clear hK K
     refine jI ?_
     exact ⟨_,_,AV.weak.refl _,AS.le.refl _,by rw [decide_eq_false fun h=>h1 h.2.1],rfl⟩
def CommitV.fits (c : CommitV) : Prop:=c.props.length≤9223372036854775807∧c.path.steps.length≤9223372036854775807∧∀ x ∈ c.path.steps,x.seals.length≤9223372036854775807
theorem mright_calls (c : CommitV) (hf : CommitV.fits c) (s : AS) : ACalls Tryz.prog Γ 87 [.agg c.cells] s (fun r s'=>r = .v (.bool (decide c.right))∧s' = s):=by
 refine acalls_body Tryz.func87 rfl Tryz.ntmps87 Tryz.results87 (by simp) ?_
 have hpa:=fun s=>pathed_calls (Γ:=Γ) c hf.2.1 hf.2.2 s
 have hl:=hf.1
 clear hf
 obtain ⟨b,hb⟩ : ∃ b,b = decide c.pathed:=⟨_,rfl⟩
 rw [← hb] at hpa
 have hbp : c.pathed↔b = true:=by rw [hb]; exact (decide_eq_true_iff).symm
 have hR : (∀ x ∈ c.props,x.right)→decide c.right = decide ((1≤c.group.length∧c.group.length≤16)∧(0≤c.epoch∧c.epoch≤1048576)∧(0≤c.sender∧c.sender < 32)∧c.props.length≤16∧b = true∧c.confirm.length = 32∧c.member.length = 32):=by
  intro h
  refine decide_eq_decide.2 ⟨fun q=>?_,fun q=>?_⟩
  ·obtain ⟨_,q1,q2,q3,q4,q5,q6⟩:=q
   exact ⟨q1,q2,q3,q4,hbp.1 q5,q6⟩
  ·obtain ⟨q1,q2,q3,q4,q5,q6⟩:=q
   exact ⟨h,q1,q2,q3,q4,hbp.2 q5,q6⟩
 have hbad0 : ∀ y,y ∈ c.props→¬ y.right→decide c.right = false:=fun y hy h=>decide_eq_false fun q=>h (q.1 y hy)
 generalize decide c.right = R at *
 clear hb hbp
 obtain ⟨g,e,sd,ps,hp,⟨pk,pp,pst⟩,cf,mb⟩:=c
 simp only at hl hR hbad0
 unfold CommitV.cells at hpa ⊢
 have hrow:=fun i (h : i < ps.length)=>row_at (c:=PropV.cells) (k:=5) (fun _=>rfl) h
 generalize hX : rowC StepV.cells pst = X at *
 generalize hZ : rowC PropV.cells ps = Z at *
 refine awp_reg_frz 1 (by simp [dsts]) ?_
 intro K hK
 simp only [↓DM,pval,DX,Nz,↓DN,Qa,Qb,Qc,Qd,Qe,Qf,Qg,Qh,reduceCtorEq,↓reduceIte,Na,Nb,Nc,Nk,Nf,Ng,Nh,Za,Zb,Zc,TT]
 intro o ho
 refine hK _ _ o _ (by simp only [upd,Nc,↓reduceIte]) ho ?_
 clear hK K ho
 refine wK fun K hK=>?_
 refine jA ?_
 refine awp_block ?_
 refine awp_loop (fun E s1=>∃ i : Nat,i≤ps.length∧E 8 = .v (.int .i64 i)∧E 7 = .v (.int .i64 ps.length)∧E 6 = .sl 5 ps.length Z .any∧E 1 = .rop [.sl 1 g.length (g.map byteV) .any,.v (.int .i64 e),.v (.int .i64 sd),.sl 5 ps.length Z .any,.v (.bool hp),.v (.int .u64 pk),.sl 1 pp.length (pp.map byteV) .any,.sl 2 pst.length X .any,.sl 1 cf.length (cf.map byteV) .any,.sl 1 mb.length (mb.map byteV) .any]∧(∀ p ∈ ps.take i,p.right)∧s1 = s)
  (fun E _=>match E 8 with | .v (.int _ i)=>ps.length - i.toNat | _=>0) ?_ ?_
 ·exact ⟨0,Nat.zero_le _,by simp only [upd,↓reduceIte]; rfl,by simp only [upd,Nc,↓reduceIte],by simp only [upd,Nc,↓reduceIte],by simp only [upd,Nc,↓reduceIte],by simp,rfl⟩
 ·rintro E1 s1 ⟨i,hi,g8,g7,g6,g1,hall,rfl⟩ -
  by_cases hi' : i < ps.length
  ·refine jB (Ai @g8 (Ai @g7 (Ai @eye_lt_nat (decide_eq_true hi')))) ?_
   refine wK fun K3 hK3=>?_
   refine jE ?_
   refine awp_skip ?_
   refine hK3 _ _ ?_;clear hK3 K3
   refine wK fun K3 hK3=>?_
   refine awp_block ?_
   have hat:=hrow i hi'
   have hge : (0 : Int)≤(i : Int):=by omega
   obtain ⟨y,hy⟩ : ∃ y,y = ps[i]:=⟨_,rfl⟩
   rw [← hy] at hat
   have hym : y ∈ ps:=by rw [hy]; exact List.getElem_mem hi'
   have htk : y.right→∀ x ∈ ps.take (i + 1),x.right:=fun h=>take_all hi' hall (by rw [← hy]; exact h)
   have hbad:=hbad0 y hym
   have hst:=fun s=>proper_calls (Γ:=Γ) y s
   clear hy
   obtain ⟨pk1,pk2,pk3,pk4,pk5⟩:=y
   unfold PropV.cells at hat hst
   refine awp_reg_frz 4 (by simp [dsts]) ?_
   intro K2 hK2
   simp only [↓DM,pval,DX,Nz,↓DN,Qa,Qb,Qc,Qd,Qe,Qf,Qg,Qh,reduceCtorEq,↓reduceIte,Na,Nb,Nc,Nk,Nf,Ng,Nh,Za,Zb,Zc,TT,g8,g6,eye_lt_nat,hi',hge,hat]
   intro o ho
   refine hK2 _ _ o _ (by simp only [upd,Nc,↓reduceIte]) ho ?_
   clear hK2 K2 ho
   refine jQ fun K hK=>?_
   refine acallk (hst _) ?_
   rintro r s2 ⟨rfl,rfl⟩
   by_cases h1 : PropV.right ⟨pk1,pk2,pk3,pk4,pk5⟩
   ·refine jV (decide_eq_true h1) hK ?_;clear hK K
    refine jF ?_
    refine awp_skip ?_
    simp only [blockQ,thenQ,if_true,if_false]
    refine hK3 _ _ ?_;clear hK3 K3
    refine jD (Ai @g8 (eye_succM i (by omega))) ?_
    refine ⟨⟨i + 1,by omega,by simp only [upd,↓reduceIte],by simp only [upd,g7,Nc,↓reduceIte],by simp only [upd,g6,Nc,↓reduceIte],by simp only [upd,g1,Nc,↓reduceIte],htk h1,rfl⟩,?_⟩
    simp only [g8,upd,↓reduceIte]
    omega
   ·refine jV (decide_eq_false h1) hK ?_;clear hK K
    refine jE ?_
    refine jA ?_
    refine jI ?_
    exact ⟨_,_,AV.weak.refl _,AS.le.refl _,by rw [hbad h1],rfl⟩
  ·have hR:=hR (take_full hi' hall)
   clear hbad0
   refine jB (Ai @g8 (Ai @g7 (Ai @eye_lt_nat (decide_eq_false hi')))) ?_
   refine wK fun K3 hK3=>?_
   refine jF ?_
   refine awp_exit ?_
   simp only [thenQ,blockQ,if_true]
   refine hK _ _ ?_;clear hK K hK3 K3
   refine jS @g1 fun K hK=>?_
   refine acallk (named_calls g _) ?_
   rintro r s2 ⟨rfl,rfl⟩
   by_cases h1 : 1≤g.length∧g.length≤16
   ·rcases ff2 (decide (0≤e)) (decide (e≤1048576)) with hd | hd | hd
    case inr.inr =>
     simp only [↓DM,pval,DX,Nz,↓DN,Qa,Qb,Qc,Qd,Qe,Qf,Qg,Qh,reduceCtorEq,↓reduceIte,Na,Nb,Nc,Nk,Nf,Ng,Nh,Za,Zb,Zc,TT,g1,decide_eq_true h1,hd]
     refine acallk (leaf_calls sd _) ?_
     rintro r s3 ⟨rfl,rfl⟩
     simp only [decide_eq_true_eq] at hd
     by_cases h2 : 0≤sd∧sd < 32
     ·by_cases h3 : ps.length≤16
      ·simp only [↓DM,pval,DX,Nz,↓DN,Qa,Qb,Qc,Qd,Qe,Qf,Qg,Qh,reduceCtorEq,↓reduceIte,Na,Nb,Nc,Nk,Nf,Ng,Nh,Za,Zb,Zc,TT,g1,decide_eq_true h2,decide_eq_true (show (ps.length : Int)≤16 by omega)]
       refine acallk (hpa _) ?_
       rintro r s4 ⟨rfl,rfl⟩
       cases b with
       | true =>
        rcases ff2 ((cf.length : Int) == 32) ((mb.length : Int) == 32) with hd2 | hd2 | hd2
        all_goals
         refine jV (Ai @g1 @hd2) hK ?_;clear hK K
         refine jI ?_
         refine ⟨_,_,AV.weak.refl _,AS.le.refl _,?_,rfl⟩
         simp only [beq_iff_eq,beq_eq_false_iff_ne,ne_eq] at hd2
         rw [hR]
         congr 2
         symm
         first
          | exact decide_eq_true ⟨h1,hd,h2,h3,rfl,by omega,by omega⟩
          | exact decide_eq_false fun h=>by omega
       | false =>
        refine jV @g1 hK ?_;clear hK K
        refine jI ?_
        exact ⟨_,_,AV.weak.refl _,AS.le.refl _,by rw [hR]; simp,rfl⟩
      ·refine jV (Ai @g1 (Ai (decide_eq_true h2) (decide_eq_false (show ¬ (ps.length : Int)≤16 by omega)))) hK ?_;clear hK K
       refine jI ?_
       exact ⟨_,_,AV.weak.refl _,AS.le.refl _,by rw [hR,decide_eq_false fun h=>h3 h.2.2.2.1],rfl⟩
     ·refine jV (Ai @g1 (decide_eq_false h2)) hK ?_;clear hK K
      refine jI ?_
      exact ⟨_,_,AV.weak.refl _,AS.le.refl _,by rw [hR,decide_eq_false fun h=>h2 h.2.2.1],rfl⟩
    all_goals
     refine jV (Ai @g1 (Ai (decide_eq_true h1) @hd)) hK ?_;clear hK K
     refine jI ?_
     refine ⟨_,_,AV.weak.refl _,AS.le.refl _,?_,rfl⟩
     simp only [decide_eq_true_eq,decide_eq_false_iff_not] at hd
     rw [hR,decide_eq_false fun h=>by have:=h.2.1; omega]
   ·refine jV (Ai @g1 (decide_eq_false h1)) hK ?_;clear hK K
    refine jI ?_
    exact ⟨_,_,AV.weak.refl _,AS.le.refl _,by rw [hR,decide_eq_false fun h=>h1 h.1],rfl⟩
theorem fits_of_wf {c : CommitV} (h : c.wf) : CommitV.fits c:=by
 obtain ⟨h1,⟨h2,h3,h4⟩,h5⟩:=h
 unfold maxLen at h4 h5
 refine ⟨by omega,by omega,fun x hx=>?_⟩
 have:=(h3 x hx).2.2
 unfold maxLen at this
 omega
end Go.Proofs.YtfjlmkifiihgkaaGreatDoor
namespace Go.AM
open Go
variable {Γ : Nat→List AV} {s s' : AS}
theorem new_right {name : List UInt8} {key : Nat} (h : (leafN name key).right) : rightT [leafN name key]:=by
  have hl : lvs [leafN name key] = 1:=by unfold lvs; simp [Fit]
  refine ⟨by rw [hl]; decide,fun i hi=>?_,.inl hl⟩
  have hi0 : i = 0:=by simp at hi; omega
  subst hi0
  refine ⟨⟨h,.inr ⟨fun _=>rfl,fun _=>rfl⟩,fun u hu=>by cases hu⟩,fun _ _ j hj hj'=>?_⟩
  have : hlf [leafN name key] = 1:=by unfold hlf; simp
  omega
end Go.AM
