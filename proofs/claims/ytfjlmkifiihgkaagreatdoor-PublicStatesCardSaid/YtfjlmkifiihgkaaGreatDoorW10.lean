/- Contracts of the program's functions, each walked once; the conditions stand in each theorem. -/
import Derived.Test.YtfjlmkifiihgkaaGreatDoorW9
import Derived.Test.YtfjlmkifiihgkaaGreatDoorW4
import Derived.Test.YtfjlmkifiihgkaaGreatDoorW5
import Derived.Test.YtfjlmkifiihgkaaGreatDoorAMp6
import Derived.Test.YtfjlmkifiihgkaaGreatDoorW1
import Derived.Test.YtfjlmkifiihgkaaGreatDoorW2
import Derived.Test.YtfjlmkifiihgkaaGreatDoorAMp7
import Derived.Test.YtfjlmkifiihgkaaGreatDoorW8
import Derived.Test.YtfjlmkifiihgkaaGreatDoorW6
import Derived.Test.YtfjlmkifiihgkaaGreatDoorW3
set_option linter.unusedSimpArgs false
set_option linter.unusedVariables false
open Nat renaming reduceLT → Na, reduceLeDiff → Nb, reduceEqDiff → Nc, reduceAdd → Nk, reduceMul → Nf, reducePow → Ng, reduceSub → Nh, reduceBEq → Nz
open Int renaming reduceLT → Za, reduceLE → Zb, reduceToNat → Zc
open And renaming intro → Ai
open Go.AM renaming ashift → Qa, aconv → Qb, aindexAddr → Qc, aindex → Qd, aslice → Qe, abuiltin → Qf, awp_reg_seq → wS, awp_reg_end → wE, awp_seq_k → wK, awp_cond_k → wC
open Go.AM.AV renaming cells → Qg, one → Qh
set_option maxRecDepth 100000
set_option maxHeartbeats 8000000
set_option autoImplicit false
namespace Go.AM
namespace Sch
def epochW : List UInt8:=[101,112,111,99,104]
def welcomeW : List UInt8:=[119,101,108,99,111,109,101]
def exporterW : List UInt8:=[101,120,112,111,114,116,101,114]
def confirmW : List UInt8:=[99,111,110,102,105,114,109]
def memberW : List UInt8:=[109,101,109,98,101,114,115,104,105,112]
def initW : List UInt8:=[105,110,105,116]
def main (j : List UInt8) : List UInt8:=Mac.tag j (List.replicate 32 0)
def epoch (j c : List UInt8) : List UInt8:=Kdf.label (main j) epochW c 32
def of (j c : List UInt8) : List (List UInt8):=[j,Kdf.derive (main j) welcomeW,Kdf.derive (epoch j c) exporterW,Kdf.derive (epoch j c) confirmW,Kdf.derive (epoch j c) memberW,Kdf.derive (epoch j c) initW]
end Sch
end Go.AM
namespace Go.AM
namespace Aes
def dbl (a : UInt8) : UInt8:=(a <<< (1 : UInt8)) ^^^ ((27 : UInt8) &&& ((0 : UInt8) - (a >>> (7 : UInt8))))
def gm : Nat→UInt8→UInt8→UInt8→UInt8
  | 0,o,_,_=>o
  | f + 1,o,a,b=>gm f (o ^^^ (a &&& ((0 : UInt8) - (b &&& 1)))) (dbl a) (b >>> 1)
def pw : Nat→UInt8→UInt8→Nat→UInt8
  | 0,o,_,_=>o
  | f + 1,o,a,n=>pw f (if n % 2 = 1 then gm 8 0 o a else o) (gm 8 0 a a) (n / 2)
def inv (a : UInt8) : UInt8:=pw 8 1 a 254
def rot (x : UInt8) (i : Nat) : UInt8:=UInt8.ofNat (x.toNat * 2 ^ i) ||| UInt8.ofNat (x.toNat / 2 ^ (8 - i))
def boxP (x : UInt8) : Nat→UInt8
  | 0=>99 ^^^ x
  | k + 1=>boxP x k ^^^ rot x (k + 1)
def box (c : UInt8) : UInt8:=boxP (inv c) 4
def sb : List UInt8:=[99,124,119,123,242,107,111,197,48,1,103,43,254,215,171,118,202,130,201,125,250,89,71,240,173,212,162,175,156,164,114,192,183,253,147,38,54,63,247,204,52,165,229,241,113,216,49,21,4,199,35,195,24,150,5,154,7,18,128,226,235,39,178,117,9,131,44,26,27,110,90,160,82,59,214,179,41,227,47,132,83,209,0,237,32,252,177,91,106,203,190,57,74,76,88,207,208,239,170,251,67,77,51,133,69,249,2,127,80,60,159,168,81,163,64,143,146,157,56,245,188,182,218,33,16,255,243,210,205,12,19,236,95,151,68,23,196,167,126,61,100,93,25,115,96,129,79,220,34,42,144,136,70,238,184,20,222,94,11,219,224,50,58,10,73,6,36,92,194,211,172,98,145,149,228,121,231,200,55,109,141,213,78,169,108,86,244,234,101,122,174,8,186,120,37,46,28,166,180,198,232,221,116,31,75,189,139,138,112,62,181,102,72,3,246,14,97,53,87,185,134,193,29,158,225,248,152,17,105,217,142,148,155,30,135,233,206,85,40,223,140,161,137,13,191,230,66,104,65,153,45,15,176,84,187,22]
def S (x : UInt8) : UInt8:=sb.getD x.toNat 0
def pwr : Nat→UInt8
  | 0=>1
  | r + 1=>dbl (pwr r)
def nx (k : List UInt8) (p : UInt8) : List UInt8 :=
  match k with
  | [k0,k1,k2,k3,k4,k5,k6,k7,k8,k9,k10,k11,k12,k13,k14,k15] =>
    let a0:=(k0 ^^^ S k13) ^^^ p
    let a1:=k1 ^^^ S k14
    let a2:=k2 ^^^ S k15
    let a3:=k3 ^^^ S k12
    let b0:=k4 ^^^ a0
    let b1:=k5 ^^^ a1
    let b2:=k6 ^^^ a2
    let b3:=k7 ^^^ a3
    let c0:=k8 ^^^ b0
    let c1:=k9 ^^^ b1
    let c2:=k10 ^^^ b2
    let c3:=k11 ^^^ b3
    [a0,a1,a2,a3,b0,b1,b2,b3,c0,c1,c2,c3,k12 ^^^ c0,k13 ^^^ c1,k14 ^^^ c2,k15 ^^^ c3]
  | _=>[]
def kr (key : List UInt8) : Nat→List UInt8
  | 0=>key
  | r + 1=>nx (kr key r) (pwr r)
def sh (b : List UInt8) (n : Nat) : UInt8:=S (b.getD (4 * ((n / 4 + n % 4) % 4) + n % 4) 0)
def mx (c : Nat→UInt8) (i : Nat) : UInt8:=(((dbl (c i) ^^^ dbl (c ((i + 1) % 4))) ^^^ c ((i + 1) % 4)) ^^^ c ((i + 2) % 4)) ^^^ c ((i + 3) % 4)
def rnd (b : List UInt8) (last : Bool) : List UInt8:=(List.range 16).map fun n=>if last then sh b n else mx (fun i=>sh b (4 * (n / 4) + i)) (n % 4)
def add (b k : List UInt8) : List UInt8:=(List.range 16).map fun n=>b.getD n 0 ^^^ k.getD n 0
def state (key b : List UInt8) : Nat→List UInt8
  | 0=>add b (kr key 0)
  | r + 1=>add (rnd (state key b r) (r + 1 == 10)) (kr key (r + 1))
def block (key b : List UInt8) : List UInt8:=state key b 10
def first (nonce : List UInt8) : Nat:=beNat (nonce.drop 12)
def ctr (nonce : List UInt8) (i : Nat) : List UInt8:=nonce.take 12 ++ be 4 ((first nonce + i) % 4294967296)
def maskB (key nonce : List UInt8) (p : Nat) : UInt8:=(block (key.take 16) (ctr nonce (p / 16))).getD (p % 16) 0
def mask (key nonce text : List UInt8) : List UInt8:=(List.range text.length).map fun p=>text.getD p 0 ^^^ maskB key nonce p
def tag (key nonce beside masked : List UInt8) : List UInt8:=(Mac.tag (key.drop 16) (be 4 beside.length ++ (beside ++ (nonce ++ masked)))).take 16
theorem tag_len (key nonce beside masked : List UInt8) : (tag key nonce beside masked).length = 16:=by simp [tag,Mac.tag_len]
end Aes
end Go.AM
namespace Go.AM
namespace Vault
def k0 : List UInt8:=[169,244,63,67,64,52,17,249,117,86,100,57,122,167,125,1,230,91,103,131,115,144,199,68,248,159,166,218,250,248,1,114,135,15,162,208,108,252,211,18,83,148,90,178,179,251,67,14]
def n3 : List UInt8:=[8,190,219,198,217,21,206,227,25,6,89,27,186,224,186,54]
def n4 : List UInt8:=[184,102,163,253,77,158,128,5,108,65,104,250,253,115,180,138]
def m3 : List UInt8:=[247,169,26,226,24,129,224,169,173,123,5,148,71,154,82,74,108,148,179,118,179,215,27,211,244,97,172,107,233,136,76,169]
def t3 : List UInt8:=[8,206,240,108,85,27,1,138,119,108,80,208,57,159,143,149]
end Vault
end Go.AM
namespace Go.AM
open Go
theorem text_at1 {l : List (List UInt8)} {i : Nat} (h : i < l.length) : List.take 1 (List.drop i (l.map fun b=>bytesV b .any)) = [bytesV l[i] .any]:=by
  rw [List.drop_eq_getElem_cons (by simpa using h)]
  simp
def smallX (l : List (List UInt8)) : Prop:=l.length≤12∧∀ b ∈ l,b.length≤4000
instance (l : List (List UInt8)) : Decidable (smallX l):=by unfold smallX; infer_instance
end Go.AM
namespace Go.AM
open Go
structure ActV where
  kind : Int
  leaf : Int
  name : List UInt8
  key : Nat
def ActV.cells (a : ActV) : List AV:=[.v (.int .i64 a.kind),.v (.int .i64 a.leaf),bytesV a.name .any,.v (.int .u64 a.key)]
theorem IsTy.act {avs : List AV} (h : IsTy (.struct (.cons tyI (.cons tyI (.cons tyB (.cons (.int .u64) .nil))))) avs) : ∃ a : ActV,avs = a.cells∧a.key < 2 ^ 64:=by
  obtain ⟨x1,y1,rfl,t1,h⟩:=isF_cons (isTy_struct h)
  obtain ⟨x2,y2,rfl,t2,h⟩:=isF_cons h
  obtain ⟨x3,y3,rfl,t3,h⟩:=isF_cons h
  obtain ⟨x4,y4,rfl,t4,h⟩:=isF_cons h
  obtain rfl:=isF_nil h
  obtain ⟨n1,rfl,_⟩:=isTy_int t1
  obtain ⟨n2,rfl,_⟩:=isTy_int t2
  obtain ⟨l3,rfl,_⟩:=t3.bytes
  obtain ⟨n4,rfl,w4⟩:=isTy_int t4
  obtain ⟨m4,rfl,h4⟩:=nat_u64 w4
  exact ⟨⟨n1,n2,l3,m4⟩,rfl,h4⟩
theorem fold_key {n : NodeV} (h : n.right) : n.key < 2 ^ 64:=by
  rcases node_kind h with hk | hk | hk
  · rw [(right_zero hk).1 h]; decide
  · have:=((right_one hk).1 h).2.2.1.2.1; omega
  · have:=((right_two hk).1 h).2.1.2.1; omega
theorem fold_W {t : List NodeV} (h : rightT t) : TreeW t:=by
  have hl:=h.len
  have:=hl.2.le
  refine ⟨by omega,fun n hn=>⟨by have:=(right_small (h.nodes hn)).2.2; omega,fold_key (h.nodes hn)⟩⟩
theorem right_ne {t : List NodeV} (h : rightT t) : t.length≠0:=by
  have:=h.len
  have:=this.2.le
  omega
end Go.AM
namespace Go.AM
open Go
def StepOk (t T : List NodeV) (f : Int) (k : Nat) : Prop:=TreeW T∧(f = 0→rightT T∨(T = t∧k = 3))
theorem fold_nilW : TreeW []:=⟨by simp,fun n hn=>by cases hn⟩
theorem StepOk.of {t T : List NodeV} {f : Int} {k : Nat} (h : (T = []∧f≠0)∨(rightT T∧f = 0)) : StepOk t T f k:=by
  rcases h with ⟨rfl,h⟩ | ⟨h1,h2⟩
  · exact ⟨fold_nilW,fun e=>absurd e h⟩
  · exact ⟨fold_W h1,fun _=>.inl h1⟩
end Go.AM
namespace Go.AM
open Go
structure StV where
  group : List UInt8
  epoch : Int
  tree : List NodeV
  conf : List UInt8
  inter : List UInt8
  deriving DecidableEq
def StV.nought : StV:=⟨[],0,[],[],[]⟩
def StV.cells (s : StV) : List AV:=[bytesV s.group .any,.v (.int .i64 s.epoch),treeV s.tree,bytesV s.conf .any,bytesV s.inter .any]
theorem StV.cells_len (s : StV) : s.cells.length = 5:=rfl
def StV.right (s : StV) : Prop:=(1≤s.group.length∧s.group.length≤16)∧0≤s.epoch∧s.epoch≤1048576∧rightT s.tree∧s.conf.length = 32∧s.inter.length = 32
instance (s : StV) : Decidable s.right:=by unfold StV.right; infer_instance
def StV.wf (s : StV) : Prop:=TreeW s.tree
def StV.text (s : StV) : List UInt8:=txt 1 s.group ++ (be 8 s.epoch.toNat ++ (treeText s.tree ++ (txt 1 s.conf ++ (txt 1 s.inter ++ []))))
def headB (g : List UInt8) (e : Int) : List UInt8:=txt 1 g ++ be 8 e.toNat
def readSt (b : List UInt8) : StV × EyeSt :=
  let g:=eyeText 1 16 (b,0)
  let e:=eyeNum 8 g.2
  let t:=treeRead e.2
  let c:=eyeText 1 32 t.2
  let i:=eyeText 1 32 c.2
  (⟨g.1,iconv .i64 (e.1 : Int),t.1,c.1,i.1⟩,i.2)
def stRead (b : List UInt8) : StV × Int :=
  if eyeEnd (readSt b).2 = 0 then (if (readSt b).1.right then ((readSt b).1,0) else (StV.nought,12)) else (StV.nought,eyeEnd (readSt b).2)
theorem readSt_text (s : StV) (h : s.right) : readSt s.text = (s,[],0):=by
  obtain ⟨⟨h1,h2⟩,h3,h4,h5,h6,h7⟩:=h
  have p8 : (256 : Nat) ^ 8 = 18446744073709551616:=by decide
  unfold readSt StV.text txt
  simp only
  rw [eyeText_be (by omega) (by omega),eyeNum_be (by omega),treeRead_text h5,eyeText_be (by omega) (by omega),eyeText_be (by omega) (by omega)]
  rw [i64_back _ h3 (by omega)]
theorem stRead_text (s : StV) (h : s.right) : stRead s.text = (s,0):=by
  unfold stRead
  rw [readSt_text s h,if_pos (show eyeEnd (([] : List UInt8),(0 : Int)) = 0 from by decide)]
  exact if_pos h
theorem StV.text_len {s : StV} (h : s.right) : s.text.length≤6600:=by
  obtain ⟨⟨h1,h2⟩,h3,h4,h5,h6,h7⟩:=h
  have:=treeText_len h5
  simp only [StV.text,List.length_append,txt_len,length_be,List.length_nil]
  omega
theorem readSt_W (b : List UInt8) : (readSt b).1.wf:=by
  show TreeW (treeRead _).1
  generalize (eyeNum 8 (eyeText 1 16 (b,0)).2).2 = st
  by_cases h : (treeRead st).2.2 = 0
  · exact fold_W (treeRead_right h)
  · rw [treeRead_none h]; exact fold_nilW
abbrev tyNodes : Ty:=.slice 5 (.struct (.cons tyI (.cons tyB (.cons (.int .u64) (.cons tyB (.cons (.slice 1 tyI) .nil))))))
theorem IsTy.state {avs : List AV} (h : IsTy (.struct (.cons tyB (.cons tyI (.cons tyNodes (.cons tyB (.cons tyB .nil)))))) avs) : ∃ s : StV,avs = s.cells∧∀ n ∈ s.tree,n.key < 2 ^ 64:=by
  obtain ⟨x1,y1,rfl,t1,h⟩:=isF_cons (isTy_struct h)
  obtain ⟨x2,y2,rfl,t2,h⟩:=isF_cons h
  obtain ⟨x3,y3,rfl,t3,h⟩:=isF_cons h
  obtain ⟨x4,y4,rfl,t4,h⟩:=isF_cons h
  obtain ⟨x5,y5,rfl,t5,h⟩:=isF_cons h
  obtain rfl:=isF_nil h
  obtain ⟨l1,rfl,_⟩:=t1.bytes
  obtain ⟨n2,rfl,_⟩:=isTy_int t2
  obtain ⟨l3,rfl,h3⟩:=IsTy.tree t3
  obtain ⟨l4,rfl,_⟩:=t4.bytes
  obtain ⟨l5,rfl,_⟩:=t5.bytes
  exact ⟨⟨l1,n2,l3,l4,l5⟩,rfl,h3⟩
end Go.AM
namespace Go.Proofs.YtfjlmkifiihgkaaGreatDoor
open Go Go.AM Go.Proofs
variable {Γ : Nat→List AV}
theorem pubNamed_calls (l : List UInt8) (s : AS) : ACalls Tryz.prog Γ 99 [bytesV l .any] s (fun r s'=>r = .v (.bool (decide (1≤l.length∧l.length≤16)))∧s' = s):=by
 refine acalls_body Tryz.func99 rfl Tryz.ntmps99 Tryz.results99 (by simp) ?_
 unfold bytesV
 refine jA ?_
 rcases ff2 (decide ((1 : Int)≤(l.length : Int))) (decide ((l.length : Int)≤16)) with hd | hd | hd
 all_goals
  refine jB @hd ?_
  refine jI ?_
  refine ⟨_,_,AV.weak.refl _,AS.le.refl _,?_,rfl⟩
  simp only [decide_eq_true_eq,decide_eq_false_iff_not] at hd
  congr 2
  first
   | exact (decide_eq_true (by omega)).symm
   | exact (decide_eq_false (by omega)).symm
theorem pubRight_calls (hG : Γ 3 = dB64.map u8C) (S : StV) (ht : S.wf) (s : AS) : ACalls Tryz.prog Γ 33 [.agg S.cells] s (fun r s'=>r = .v (.bool (decide S.right))∧s' = s):=by
 refine acalls_body Tryz.func33 rfl Tryz.ntmps33 Tryz.results33 (by simp) ?_
 have h1:=fun s=>pubNamed_calls (Γ:=Γ) S.group s
 have h2:=fun s=>right20_calls (Γ:=Γ) hG S.tree ht s
 obtain ⟨Z,hZ⟩ : ∃ Z : Bool,Z = decide S.right:=⟨_,rfl⟩
 rw [← hZ]
 have hS : Z = true↔(1≤S.group.length∧S.group.length≤16)∧0≤S.epoch∧S.epoch≤1048576∧rightT S.tree∧S.conf.length = 32∧S.inter.length = 32:=by rw [hZ,decide_eq_true_iff]; exact Iff.rfl
 clear hZ
 obtain ⟨g,e,t,c,i⟩:=S
 unfold StV.cells
 simp only at *
 obtain ⟨A,hA⟩ : ∃ A : Bool,A = decide (1≤g.length∧g.length≤16):=⟨_,rfl⟩
 rw [← hA] at h1
 unfold treeV bytesV at *
 generalize rowC NodeV.cells t = X at *
 refine awp_reg_frz 1 (by decide) ?_
 intro K hK
 simp only [↓DM,pval,DX,Nz,↓DN,Qa,Qb,Qc,Qd,Qe,Qf,Qg,Qh,reduceCtorEq,↓reduceIte,Na,Nb,Nc,Nk,Nf,Ng,Nh,Za,Zb,Zc,TT]
 intro o ho
 refine hK _ _ o _ (by simp only [upd,Nc,↓reduceIte]) ho ?_
 clear hK K ho
 refine jQ fun K hK=>?_
 refine acallk (h1 _) ?_
 rintro r s1 ⟨rfl,rfl⟩
 rcases ff3 A (decide (0≤e)) (decide (e≤1048576)) with hd | hd | hd | hd
 case inr.inr.inr =>
  rcases ff3 (decide (rightT t)) ((c.length : Int) == 32) ((i.length : Int) == 32) with he | he | he | he
  all_goals
   simp only [↓DM,pval,DX,Nz,↓DN,Qa,Qb,Qc,Qd,Qe,Qf,Qg,Qh,reduceCtorEq,↓reduceIte,Na,Nb,Nc,Nk,Nf,Ng,Nh,Za,Zb,Zc,TT,hd]
   refine acallk (h2 _) ?_
   rintro r s2 ⟨rfl,rfl⟩
   refine jV (Ai @hd @he) hK ?_;clear hK K
   refine jI ?_
   refine ⟨_,_,AV.weak.refl _,AS.le.refl _,?_,rfl⟩
   simp only [hA,decide_eq_true_eq,decide_eq_false_iff_not,beq_iff_eq,beq_eq_false_iff_ne,ne_eq] at hd he
   have hQ : Z = true↔rightT t∧c.length = 32∧i.length = 32:=by
    rw [hS]
    exact ⟨fun h=>h.2.2.2,fun h=>⟨hd.1,hd.2.1,hd.2.2,h⟩⟩
   congr 2
   first
    | exact (hQ.2 ⟨he.1,by omega,by omega⟩).symm
    | exact (Bool.eq_false_iff.2 fun h=>by
      have:=hQ.1 h
      first
       | exact he this.1
       | omega).symm
 all_goals
  refine jV @hd hK ?_;clear hK K
  refine jI ?_
  refine ⟨_,_,AV.weak.refl _,AS.le.refl _,?_,rfl⟩
  simp only [hA,decide_eq_true_eq,decide_eq_false_iff_not] at hd
  congr 2
  exact (Bool.eq_false_iff.2 fun h=>by
   obtain ⟨q1,q2,q3,-⟩:=hS.1 h
   first
    | exact hd q1
    | exact hd.2 q2
    | exact hd.2.2 q3).symm
theorem refPubRight_calls (S : StV) (ht : S.wf) (s : AS) : ACalls Tryz.prog Γ 41 [.agg S.cells] s (fun r s'=>r = .v (.bool (decide S.right))∧s' = s):=by
 refine acalls_body Tryz.func41 rfl Tryz.ntmps41 Tryz.results41 (by simp) ?_
 have h2:=fun s=>refRight20_calls (Γ:=Γ) S.tree ht s
 obtain ⟨Z,hZ⟩ : ∃ Z : Bool,Z = decide S.right:=⟨_,rfl⟩
 rw [← hZ]
 have hS : Z = true↔(1≤S.group.length∧S.group.length≤16)∧0≤S.epoch∧S.epoch≤1048576∧rightT S.tree∧S.conf.length = 32∧S.inter.length = 32:=by rw [hZ,decide_eq_true_iff]; exact Iff.rfl
 clear hZ
 obtain ⟨g,e,t,c,i⟩:=S
 unfold StV.cells
 simp only at *
 unfold treeV bytesV at *
 generalize rowC NodeV.cells t = X at *
 refine awp_reg_frz 1 (by decide) ?_
 intro K hK
 simp only [↓DM,pval,DX,Nz,↓DN,Qa,Qb,Qc,Qd,Qe,Qf,Qg,Qh,reduceCtorEq,↓reduceIte,Na,Nb,Nc,Nk,Nf,Ng,Nh,Za,Zb,Zc,TT]
 intro o ho
 refine hK _ _ o _ (by simp only [upd,Nc,↓reduceIte]) ho ?_
 clear hK K ho
 rcases ff4 (decide ((1 : Int)≤(g.length : Int))) (decide ((g.length : Int)≤16)) (decide (0≤e)) (decide (e≤1048576)) with hd | hd | hd | hd | hd
 case inr.inr.inr.inr =>
  rcases ff3 (decide (rightT t)) ((c.length : Int) == 32) ((i.length : Int) == 32) with he | he | he | he
  all_goals
   refine jS @hd fun K hK=>?_
   refine acallk (h2 _) ?_
   rintro r s2 ⟨rfl,rfl⟩
   refine jV (Ai @hd @he) hK ?_;clear hK K
   refine jI ?_
   refine ⟨_,_,AV.weak.refl _,AS.le.refl _,?_,rfl⟩
   simp only [decide_eq_true_eq,decide_eq_false_iff_not,beq_iff_eq,beq_eq_false_iff_ne,ne_eq] at hd he
   have hQ : Z = true↔rightT t∧c.length = 32∧i.length = 32:=by
    rw [hS]
    exact ⟨fun h=>h.2.2.2,fun h=>⟨by omega,hd.2.2.1,hd.2.2.2,h⟩⟩
   congr 2
   first
    | exact (hQ.2 ⟨he.1,by omega,by omega⟩).symm
    | exact (Bool.eq_false_iff.2 fun h=>by
      have:=hQ.1 h
      first
       | exact he this.1
       | omega).symm
 all_goals
  refine jB @hd ?_
  refine jI ?_
  refine ⟨_,_,AV.weak.refl _,AS.le.refl _,?_,rfl⟩
  simp only [decide_eq_true_eq,decide_eq_false_iff_not] at hd
  congr 2
  exact (Bool.eq_false_iff.2 fun h=>by
   obtain ⟨q1,q2,q3,-⟩:=hS.1 h
   omega).symm
theorem refPubSame_calls (S T : StV) (ht : S.wf) (s : AS) : ACalls Tryz.prog Γ 32 [.agg S.cells,.agg T.cells] s (fun r s'=>r = .v (.bool (decide (S = T)))∧s' = s):=by
 refine acalls_body Tryz.func32 rfl Tryz.ntmps32 Tryz.results32 (by simp) ?_
 have h2:=fun s=>same20_calls (Γ:=Γ) S.tree T.tree ht s
 obtain ⟨Z,hZ⟩ : ∃ Z : Bool,Z = decide (S = T):=⟨_,rfl⟩
 rw [← hZ]
 obtain ⟨g,e,t,c,i⟩:=S
 obtain ⟨g',e',t',c',i'⟩:=T
 have hS : Z = true↔g = g'∧e = e'∧t = t'∧c = c'∧i = i':=by rw [hZ,decide_eq_true_iff,StV.mk.injEq]
 clear hZ
 unfold StV.cells
 simp only at *
 unfold treeV bytesV at *
 generalize rowC NodeV.cells t = X at *
 generalize rowC NodeV.cells t' = X' at *
 refine awp_reg_frz2 2 3 (by decide) (by decide) (by decide) ?_
 intro K hK
 simp only [↓DM,pval,DX,Nz,↓DN,Qa,Qb,Qc,Qd,Qe,Qf,Qg,Qh,reduceCtorEq,↓reduceIte,Na,Nb,Nc,Nk,Nf,Ng,Nh,Za,Zb,Zc,TT]
 intro o1 h1 o2 h3
 refine hK _ _ o1 o2 _ _ (by simp only [upd,Nc,↓reduceIte]) (by simp only [upd,Nc,↓reduceIte]) h1 (by rw [AS.set_objs_eq]; exact h3) ?_
 clear hK K h1 h3
 rcases ff2 (g == g') (e == e') with hd | hd | hd
 case inr.inr =>
  rcases ff3 (decide (t = t')) (c == c') (i == i') with he | he | he | he
  all_goals
   refine jS @hd fun K hK=>?_
   refine acallk (h2 _) ?_
   rintro r s2 ⟨rfl,rfl⟩
   refine jV (Ai @hd @he) hK ?_;clear hK K
   refine jI ?_
   refine ⟨_,_,AV.weak.refl _,AS.le.refl _,?_,rfl⟩
   simp only [decide_eq_true_eq,decide_eq_false_iff_not,beq_iff_eq,beq_eq_false_iff_ne,ne_eq] at hd he
   have hQ : Z = true↔t = t'∧c = c'∧i = i':=by
    rw [hS]
    exact ⟨fun h=>h.2.2,fun h=>⟨hd.1,hd.2,h⟩⟩
   congr 2
   first
    | exact (hQ.2 he).symm
    | exact (Bool.eq_false_iff.2 fun h=>by
      have:=hQ.1 h
      first
       | exact he this.1
       | exact he.2 this.2.1
       | exact he.2.2 this.2.2).symm
 all_goals
  refine jB @hd ?_
  refine jI ?_
  refine ⟨_,_,AV.weak.refl _,AS.le.refl _,?_,rfl⟩
  simp only [beq_iff_eq,beq_eq_false_iff_ne,ne_eq] at hd
  congr 2
  exact (Bool.eq_false_iff.2 fun h=>by
   have:=hS.1 h
   first
    | exact hd this.1
    | exact hd.2 this.2.1).symm
end Go.Proofs.YtfjlmkifiihgkaaGreatDoor
namespace Go.Proofs.YtfjlmkifiihgkaaGreatDoor
open Go Go.AM Go.Proofs
variable {Γ : Nat→List AV}
theorem partsB_dub (a b : List UInt8) : PartsB [a,b] = [bytesV a .any,bytesV b .any]:=rfl
theorem shaV_calls (hG0 : Γ 0 = stC Sha.H0) (hG1 : Γ 1 = Sha.K.map wV) (ls : List (List UInt8)) (sp : Sp) (hn : ls.length≤2 ^ 40) (hl : ls.flatten.length≤2 ^ 40) (s : AS) :
  ACalls Tryz.prog Γ 94 [.sl 1 ls.length (PartsB ls) sp] s (fun r s'=>r = bytesV (Sha.sum ls.flatten) .any∧s' = s):=by
 refine ACalls.settle (sum_calls hG0 hG1 ls sp hn hl s) ?_
 intro r s1 ho
 exact ⟨s,_,(Settles.weak ho.weak).trans (Settles.le _ ho.1),rfl,rfl⟩
def zeros32 : List UInt8:=List.replicate 32 0
theorem zeros32_map : List.replicate 32 (AV.v (.int .u8 0)) = zeros32.map byteV:=by unfold zeros32; rw [List.map_replicate]; rfl
theorem zeros32_len : zeros32.length = 32:=by decide
def firstT (g n : List UInt8) (k : Nat) : StV × Int :=
 if (leafN n k).right∧1≤g.length∧g.length≤16 then (⟨g,0,[leafN n k],zeros32,Sha.sum (zeros32 ++ zeros32)⟩,0) else (StV.nought,2)
theorem noughtS_weak : (AV.agg [.v (.slice none 0 0),.v (.int .i64 0),.v (.slice none 0 0),.v (.slice none 0 0),.v (.slice none 0 0)]).weak (.agg StV.nought.cells) :=
 AV.weak_agg (.cons AV.weak_nil (.cons (AV.weak.refl _) (.cons AV.weak_nil (.cons AV.weak_nil (.cons AV.weak_nil .nil)))))
theorem pubFirst_calls (hG0 : Γ 0 = stC Sha.H0) (hG1 : Γ 1 = Sha.K.map wV) (g n : List UInt8) (k : Nat) (hg : g.length≤2 ^ 40) (hn : n.length≤2 ^ 40) (s : AS) :
  ACalls Tryz.prog Γ 36 [bytesV g .any,bytesV n .any,.v (.int .u64 k)] s (fun r s'=>r = .tup [.agg (firstT g n k).1.cells,.v (.int .i64 (firstT g n k).2)]∧s' = s):=by
 have h1:=fun s=>new20_calls (Γ:=Γ) n k (by omega) s
 have h2:=fun s=>pubNamed_calls (Γ:=Γ) g s
 have h3:=fun s=>bytesClone_calls (Γ:=Γ) g s (by omega)
 have h4:=fun s=>shaV_calls (Γ:=Γ) hG0 hG1 [zeros32,zeros32] .new (by decide) (by decide +kernel) s
 rw [show [zeros32,zeros32].flatten = zeros32 ++ zeros32 from by simp,partsB_dub] at h4
 unfold firstT
 have hT : treeV [leafN n k] = .sl 5 1 (rowC NodeV.cells [leafN n k]) .any:=rfl
 rw [hT] at h1
 have hcl : (⟨g,0,[leafN n k],zeros32,Sha.sum (zeros32 ++ zeros32)⟩ : StV).cells = [bytesV g .any,.v (.int .i64 0),.sl 5 1 (rowC NodeV.cells [leafN n k]) .any,.sl 1 32 (zeros32.map byteV) .any,bytesV (Sha.sum (zeros32 ++ zeros32)) .any]:=rfl
 have hzz : bytesV zeros32 .any = .sl 1 32 (zeros32.map byteV) .any:=rfl
 rw [hzz] at h4
 have hzm:=zeros32_map
 have hzl : (zeros32.map byteV).length = 32:=by rw [List.length_map,zeros32_len]
 generalize Sha.sum (zeros32 ++ zeros32) = D at *
 generalize zeros32 = Z at *
 generalize rowC NodeV.cells [leafN n k] = X at *
 refine acalls_body Tryz.func36 rfl Tryz.ntmps36 Tryz.results36 (by simp) ?_
 unfold bytesV at *
 refine jQ fun K hK=>?_
 intro o ho
 refine hK _ _ ?_;clear hK K
 by_cases hr : (leafN n k).right
 ·rw [if_pos hr] at h1
  by_cases ha : 1≤g.length∧g.length≤16
  ·rw [if_pos ⟨hr,ha⟩,hcl]
   refine jK (h1 _) ?_;rintro s1 rfl
   refine wK fun K hK=>?_
   refine jQ fun K hK=>?_
   refine acallk (h2 _) ?_
   rintro r s2 ⟨rfl,rfl⟩
   refine jV (Ai (decide_eq_true ha) (show ((0 : Int) != 0) = false from rfl)) hK ?_;clear hK K
   refine jF ?_
   refine awp_skip ?_
   refine hK _ _ ?_;clear hK K
   refine awp_reg_stl 10 (by decide) ?_
   intro K hK
   simp only [↓DM,pval,DX,Nz,↓DN,Qa,Qb,Qc,Qd,Qe,Qf,Qg,Qh,reduceCtorEq,↓reduceIte,Na,Nb,Nc,Nk,Nf,Ng,Nh,Za,Zb,Zc,TT,hzm]
   refine ⟨by decide,by decide,fun o2 ho2=>?_⟩
   refine hK _ _ _ _ (Settles.made (sp:=.any) ho2 hzl) ?_
   clear hK K
   refine wS fun K hK=>?_
   simp only [↓DN,Qa,Qb,Qc,Qd,Qe,Qf,Qg,Qh,reduceCtorEq,↓reduceIte,Na,Nb,Nc,Nk,Nf,Ng,Nh,Za,Zb,Zc,TT,List.replicate_succ,List.replicate_zero]
   refine acallk (h3 _) ?_
   rintro r s3 ⟨rfl,rfl⟩
   simp only [↓DM,pval,DX,Nz,↓DN,Qa,Qb,Qc,Qd,Qe,Qf,Qg,Qh,reduceCtorEq,↓reduceIte,Na,Nb,Nc,Nk,Nf,Ng,Nh,Za,Zb,Zc,TT]
   refine acallk (h4 _) ?_
   rintro r s4 ⟨rfl,rfl⟩
   refine jV @AS.set_objs_same hK ?_;clear hK K
   refine awp_ret ?_
   refine aends_cell_tmp (o:=o) (off:=0) (by simp only [upd,Nc,↓reduceIte]) (AS.set_objs_same _ _ _) (by rw [T.c48]; decide) (by simp only [↓DN,Qa,Qb,Qc,Qd,Qe,Qf,Qg,Qh,reduceCtorEq,↓reduceIte,Na,Nb,Nc,Nk,Nf,Ng,Nh,Za,Zb,Zc,TT]; rfl) ?_
   exact ⟨_,s,AV.weak.refl _,AS.le_set (AS.le.refl s) ho _,rfl,rfl⟩
  ·rw [if_neg (fun h=>ha h.2)]
   refine jK (h1 _) ?_;rintro s1 rfl
   refine wK fun K hK=>?_
   refine jQ fun K hK=>?_
   refine acallk (h2 _) ?_
   rintro r s2 ⟨rfl,rfl⟩
   refine jV (decide_eq_false ha) hK ?_;clear hK K
   refine jE ?_
   refine jB @AS.set_objs_same ?_
   refine awp_ret ?_
   refine aends_cell_tmp (o:=o) (off:=0) (by simp only [upd,Nc,↓reduceIte]) (AS.set_objs_same _ _ _) (by rw [T.c48]; decide) (by simp only [↓DN,Qa,Qb,Qc,Qd,Qe,Qf,Qg,Qh,reduceCtorEq,↓reduceIte,Na,Nb,Nc,Nk,Nf,Ng,Nh,Za,Zb,Zc,TT]; rfl) ?_
   exact ⟨_,s,AV.weak_tup2 noughtS_weak (AV.weak.refl _),AS.le_set (AS.le.refl s) ho _,rfl,rfl⟩
 ·rw [if_neg hr] at h1
  rw [if_neg (fun h=>hr h.1)]
  unfold nilS at h1
  refine jK (h1 _) ?_;rintro s1 rfl
  by_cases ha : 1≤g.length∧g.length≤16
  ·refine wK fun K hK=>?_
   refine jQ fun K hK=>?_
   refine acallk (h2 _) ?_
   rintro r s2 ⟨rfl,rfl⟩
   refine jV (Ai (decide_eq_true ha) (show ((2 : Int) != 0) = true from rfl)) hK ?_;clear hK K
   refine jE ?_
   refine jB @AS.set_objs_same ?_
   refine awp_ret ?_
   refine aends_cell_tmp (o:=o) (off:=0) (by simp only [upd,Nc,↓reduceIte]) (AS.set_objs_same _ _ _) (by rw [T.c48]; decide) (by simp only [↓DN,Qa,Qb,Qc,Qd,Qe,Qf,Qg,Qh,reduceCtorEq,↓reduceIte,Na,Nb,Nc,Nk,Nf,Ng,Nh,Za,Zb,Zc,TT]; rfl) ?_
   exact ⟨_,s,AV.weak_tup2 noughtS_weak (AV.weak.refl _),AS.le_set (AS.le.refl s) ho _,rfl,rfl⟩
  ·refine wK fun K hK=>?_
   refine jQ fun K hK=>?_
   refine acallk (h2 _) ?_
   rintro r s2 ⟨rfl,rfl⟩
   refine jV (decide_eq_false ha) hK ?_;clear hK K
   refine jE ?_
   refine jB @AS.set_objs_same ?_
   refine awp_ret ?_
   refine aends_cell_tmp (o:=o) (off:=0) (by simp only [upd,Nc,↓reduceIte]) (AS.set_objs_same _ _ _) (by rw [T.c48]; decide) (by simp only [↓DN,Qa,Qb,Qc,Qd,Qe,Qf,Qg,Qh,reduceCtorEq,↓reduceIte,Na,Nb,Nc,Nk,Nf,Ng,Nh,Za,Zb,Zc,TT]; rfl) ?_
   exact ⟨_,s,AV.weak_tup2 noughtS_weak (AV.weak.refl _),AS.le_set (AS.le.refl s) ho _,rfl,rfl⟩
end Go.Proofs.YtfjlmkifiihgkaaGreatDoor
namespace Go.Proofs.YtfjlmkifiihgkaaGreatDoor
open Go Go.AM Go.Proofs
variable {Γ : Nat→List AV}
theorem treeNV (t : List NodeV) : (treeN t).weak (.sl 5 t.length (rowC NodeV.cells t) .any):=by
 unfold treeN
 split
 ·rename_i h
  subst h
  exact AV.weak_nil
 ·exact AV.weak.refl _
theorem treeReadV_calls (hG : Γ 3 = dB64.map u8C) (s : AS) (p : Nat) (st : EyeSt) (hl : st.1.length≤2 ^ 44) (h : s.objs p = some (eyeC st)) :
  ACalls Tryz.prog Γ 103 [.ptr p 0] s (fun r s'=>r = .sl 5 (treeRead st).1.length (rowC NodeV.cells (treeRead st).1) .any∧s' = s.set p (eyeC (treeRead st).2)):=by
 refine ACalls.settle (treeRead_calls hG s p st hl h) ?_
 rintro r s1 ⟨rfl,rfl⟩
 exact ⟨_,_,Settles.weak (treeNV _),rfl,rfl⟩
theorem pubRead_calls (hG : Γ 3 = dB64.map u8C) (b : List UInt8) (hb : b.length≤2 ^ 44) (s : AS) : ACalls Tryz.prog Γ 34 [bytesV b .any] s (fun r s'=>r = .tup [.agg (stRead b).1.cells,.v (.int .i64 (stRead b).2)]∧s' = s):=by
 refine acalls_body Tryz.func34 rfl Tryz.ntmps34 Tryz.results34 (by simp) ?_
 obtain ⟨qg,eg⟩ : ∃ q,q = eyeText 1 16 (b,0):=⟨_,rfl⟩
 obtain ⟨qe,ee⟩ : ∃ q,q = eyeNum 8 qg.2:=⟨_,rfl⟩
 obtain ⟨qt,et⟩ : ∃ q,q = treeRead qe.2:=⟨_,rfl⟩
 obtain ⟨qc,ec⟩ : ∃ q,q = eyeText 1 32 qt.2:=⟨_,rfl⟩
 obtain ⟨qi,ei⟩ : ∃ q,q = eyeText 1 32 qc.2:=⟨_,rfl⟩
 have lg : qg.2.1.length≤2 ^ 44:=by rw [eg]; exact Nat.le_trans (eyeText_len _ _ _).2 hb
 have le : qe.2.1.length≤2 ^ 44:=by rw [ee]; exact Nat.le_trans (eyeNum_len _ _) lg
 have lt : qt.2.1.length≤2 ^ 44:=by rw [et]; exact Nat.le_trans (treeRead_left _) le
 have lc : qc.2.1.length≤2 ^ 44:=by rw [ec]; exact Nat.le_trans (eyeText_len _ _ _).2 lt
 have hrr : readSt b = (⟨qg.1,iconv .i64 (qe.1 : Int),qt.1,qc.1,qi.1⟩,qi.2):=by subst ei ec et ee eg; rfl
 have hwf:=readSt_W b
 rw [hrr] at hwf
 simp only at hwf
 refine jQ fun K hK=>?_
 intro o2 ho2
 refine hK _ _ ?_;clear hK K
 refine jQ fun K hK=>?_
 refine acallk (open_set b _ (by omega)) ?_
 rintro r s1 ⟨p,hp,rfl,rfl⟩
 obtain ⟨hp2,hp0⟩:=AS.fresh_set hp
 refine jR hK ?_;clear hK K
 obtain ⟨z,hz⟩ : ∃ z : List AV,z = [.v (.slice none 0 0),.v (.int .i64 0),.v (.slice none 0 0),.v (.slice none 0 0),.v (.slice none 0 0)]:=⟨_,rfl⟩
 rw [← hz]
 refine jQ fun K hK=>?_
 refine acallk (eyeShort_set _ p _ 16 (by simp only; omega) (AS.set_objs_same _ _ _)) ?_
 rintro r s1 ⟨rfl,rfl⟩
 rw [← eg]
 simp only [↓DM,pval,DX,Nz,↓DN,Qa,Qb,Qc,Qd,Qe,Qf,Qg,Qh,reduceCtorEq,↓reduceIte,Na,Nb,Nc,Nk,Nf,Ng,Nh,Za,Zb,Zc,TT]
 refine acallk (eyeU64_set _ p _ (AS.set_objs_same _ _ _)) ?_
 rintro r s1 ⟨rfl,rfl⟩
 rw [← ee]
 simp only [↓DM,pval,DX,Nz,↓DN,Qa,Qb,Qc,Qd,Qe,Qf,Qg,Qh,reduceCtorEq,↓reduceIte,Na,Nb,Nc,Nk,Nf,Ng,Nh,Za,Zb,Zc,TT]
 refine acallk (treeReadV_calls hG _ p _ le (AS.set_objs_same _ _ _)) ?_
 rintro r s1 ⟨rfl,rfl⟩
 rw [← et]
 simp only [↓DM,pval,DX,Nz,↓DN,Qa,Qb,Qc,Qd,Qe,Qf,Qg,Qh,reduceCtorEq,↓reduceIte,Na,Nb,Nc,Nk,Nf,Ng,Nh,Za,Zb,Zc,TT]
 intro o5 ho5
 have h5p : o5≠p:=by
  rintro rfl
  simp at ho5
 have h52 : o5≠o2:=by
  rintro rfl
  simp [hp2.symm] at ho5
 have h50 : s.objs o5 = none:=by simpa [h5p,h52] using ho5
 refine hK _ _ ?_;clear hK K
 have J : RdS (s.set p (eyeC (b,0))) (((s.set o2 z).set p (eyeC qt.2)).set o5 [.sl 1 qg.1.length (qg.1.map byteV) .any,.v (.int .i64 (iconv .i64 (qe.1 : Int))),.sl 5 qt.1.length (rowC NodeV.cells qt.1) .any,.v (.slice none 0 0),.v (.slice none 0 0)]) p o2 o5 (eyeC qt.2) z [.sl 1 qg.1.length (qg.1.map byteV) .any,.v (.int .i64 (iconv .i64 (qe.1 : Int))),.sl 5 qt.1.length (rowC NodeV.cells qt.1) .any,.v (.slice none 0 0),.v (.slice none 0 0)]:=by
  refine ⟨?_,?_,?_,AS.set_objs_same _ _ _,?_,?_,hp2,h5p.symm,h52.symm⟩
  ·rw [AS.drop_set hp0]
   exact AS.le_set (AS.le_set (AS.le_set (AS.le.refl s) ho2 _) hp0 _) h50 _
  ·rw [AS.set_objs_ne _ h5p.symm,AS.set_objs_same]
  ·rw [AS.set_objs_ne _ h52.symm,AS.set_objs_ne _ hp2.symm,AS.set_objs_same]
  ·rw [AS.set_objs_ne _ hp2.symm]; exact ho2
  ·rw [AS.set_objs_ne _ h5p]; exact h50
 refine (fun (k : ∀ (E : Env) (s1 : AS),E 4 = .ptr p 0→E 2 = .ptr o2 0→E 5 = .ptr o5 0→RdS (s.set p (eyeC (b,0))) s1 p o2 o5 (eyeC qt.2) z [.sl 1 qg.1.length (qg.1.map byteV) .any,.v (.int .i64 (iconv .i64 (qe.1 : Int))),.sl 5 qt.1.length (rowC NodeV.cells qt.1) .any,.v (.slice none 0 0),.v (.slice none 0 0)]→_)=>k _ _ (by simp only [upd,Nc,↓reduceIte]) (by simp only [upd,Nc,↓reduceIte]) (by simp only [upd,Nc,↓reduceIte]) J) ?_
 clear J
 intro E s1 g4 g2 g5 J
 have jv:=J.var
 have jp:=J.p3
 have jp2:=J.p3.symm
 refine jS @g4 fun K hK=>?_
 refine acallk (eyeShort_set _ p _ 32 (by have:=lt; omega) J.eye) ?_
 rintro r s2 ⟨rfl,rfl⟩
 rw [← ec]
 simp only [↓DM,pval,DX,Nz,↓DN,Qa,Qb,Qc,Qd,Qe,Qf,Qg,Qh,reduceCtorEq,↓reduceIte,Na,Nb,Nc,Nk,Nf,Ng,Nh,Za,Zb,Zc,TT,g4]
 refine acallk (eyeShort_set _ p _ 32 (by have:=lc; omega) (AS.set_objs_same _ _ _)) ?_
 rintro r s2 ⟨rfl,rfl⟩
 rw [← ei]
 refine jV (Ai @g5 (Ai @jv (Ai @jp @jp2))) hK ?_;clear hK K
 replace J:=(J.setEye (eyeC qi.2)).setVar [.sl 1 qg.1.length (qg.1.map byteV) .any,.v (.int .i64 (iconv .i64 (qe.1 : Int))),.sl 5 qt.1.length (rowC NodeV.cells qt.1) .any,.sl 1 qc.1.length (qc.1.map byteV) .any,.sl 1 qi.1.length (qi.1.map byteV) .any]
 clear jv jp jp2
 generalize (s1.set p (eyeC qi.2)).set o5 [.sl 1 qg.1.length (qg.1.map byteV) .any,.v (.int .i64 (iconv .i64 (qe.1 : Int))),.sl 5 qt.1.length (rowC NodeV.cells qt.1) .any,.sl 1 qc.1.length (qc.1.map byteV) .any,.sl 1 qi.1.length (qi.1.map byteV) .any] = s1 at *
 have jv:=J.var
 have jr:=J.res
 have jd:=J.d
 have jd2:=J.d.symm
 rw [hz] at jr
 have hout : ∀ (c : List AV),s.le (s1.set o2 c):=by
  intro c
  have:=(J.setRes c).le
  rwa [AS.drop_set hp0] at this
 refine wK fun K4 hK4=>?_
 by_cases he : eyeEnd qi.2 = 0
 ·refine jS @g4 fun K hK=>?_
  refine acallk (eyeEnd_at _ p _ J.eye) ?_
  rintro r s3 ⟨rfl,rfl⟩
  refine jR hK ?_;clear hK K
  refine jB (Ai @he (i64_ne_false 0 rfl)) ?_
  refine jF ?_
  refine awp_skip ?_
  refine hK4 _ _ ?_;clear hK4 K4
  refine wK fun K6 hK6=>?_
  refine jS (Ai @g5 @jv) fun K hK=>?_
  refine acallk (pubRight_calls hG (S:=⟨qg.1,iconv .i64 (qe.1 : Int),qt.1,qc.1,qi.1⟩) hwf _) ?_
  rintro r s4 ⟨rfl,rfl⟩
  by_cases hr : StV.right ⟨qg.1,iconv .i64 (qe.1 : Int),qt.1,qc.1,qi.1⟩
  ·rw [decide_eq_true hr]
   refine jR hK ?_;clear hK K
   refine jF ?_
   refine awp_skip ?_
   refine hK6 _ _ ?_;clear hK6 K6
   refine jB (Ai @g5 (Ai @g2 (Ai @jv (Ai @jr (Ai @jd @jd2))))) ?_
   refine awp_ret ?_
   refine aends_cell_tmp (o:=o2) (off:=0) (by simp only [upd,g2,Nc,↓reduceIte]) (AS.set_objs_same _ _ _) (by rw [T.c48]; decide) (by simp only [↓DN,Qa,Qb,Qc,Qd,Qe,Qf,Qg,Qh,reduceCtorEq,↓reduceIte,Na,Nb,Nc,Nk,Nf,Ng,Nh,Za,Zb,Zc,TT]; rfl) ?_
   rw [show stRead b = (⟨qg.1,iconv .i64 (qe.1 : Int),qt.1,qc.1,qi.1⟩,0) from by unfold stRead; rw [hrr]; exact (if_pos he).trans (if_pos hr)]
   exact ⟨_,s,AV.weak.refl _,hout _,rfl,rfl⟩
  ·rw [decide_eq_false hr]
   refine jR hK ?_;clear hK K
   refine jE ?_
   refine jB (Ai @g2 @jr) ?_
   refine awp_ret ?_
   refine aends_cell_tmp (o:=o2) (off:=0) (by simp only [upd,g2,Nc,↓reduceIte]) (AS.set_objs_same _ _ _) (by rw [T.c48]; decide) (by simp only [↓DN,Qa,Qb,Qc,Qd,Qe,Qf,Qg,Qh,reduceCtorEq,↓reduceIte,Na,Nb,Nc,Nk,Nf,Ng,Nh,Za,Zb,Zc,TT]; rfl) ?_
   rw [show stRead b = (StV.nought,12) from by unfold stRead; rw [hrr]; exact (if_pos he).trans (if_neg hr)]
   exact ⟨_,s,AV.weak_tup2 noughtS_weak (AV.weak.refl _),hout _,rfl,rfl⟩
 ·refine jS @g4 fun K hK=>?_
  refine acallk (eyeEnd_at _ p _ J.eye) ?_
  rintro r s3 ⟨rfl,rfl⟩
  refine jR hK ?_;clear hK K
  refine jB (i64_ne_true _ he) ?_
  refine jE ?_
  refine jB (Ai @g2 @jr) ?_
  refine awp_ret ?_
  refine aends_cell_tmp (o:=o2) (off:=0) (by simp only [upd,g2,Nc,↓reduceIte]) (AS.set_objs_same _ _ _) (by rw [T.c48]; decide) (by simp only [↓DN,Qa,Qb,Qc,Qd,Qe,Qf,Qg,Qh,reduceCtorEq,↓reduceIte,Na,Nb,Nc,Nk,Nf,Ng,Nh,Za,Zb,Zc,TT]; rfl) ?_
  rw [show stRead b = (StV.nought,eyeEnd qi.2) from by unfold stRead; rw [hrr]; exact if_neg he]
  exact ⟨_,s,AV.weak_tup2 noughtS_weak (AV.weak.refl _),hout _,rfl,rfl⟩
end Go.Proofs.YtfjlmkifiihgkaaGreatDoor
namespace Go.Proofs.YtfjlmkifiihgkaaGreatDoor
open Go Go.AM Go.Proofs
variable {Γ : Nat→List AV}
theorem clone20V_calls (t : List NodeV) (ht : t.length≤2 ^ 30) (hw : ∀ n ∈ t,NodeW n) (s : AS) : ACalls Tryz.prog Γ 69 [treeV t] s (fun r s'=>r = treeV t∧s' = s):=by
  refine ACalls.settle (clone20_calls t ht hw s) ?_
  rintro r s1 ⟨TS,hT,hO⟩
  obtain ⟨s2,k1,k2⟩:=hO.settle (Γ:=Γ)
  rw [hT] at k1
  exact ⟨s,_,k1.trans (Settles.le _ k2),rfl,rfl⟩
end Go.Proofs.YtfjlmkifiihgkaaGreatDoor
namespace Go.Proofs.YtfjlmkifiihgkaaGreatDoor
open Go Go.AM Go.Proofs
variable {Γ : Nat→List AV}
theorem pub_bool (n : Nat) : (decide (2≤(n : Int)) && decide ((n : Int)≤2305843009213693949)) = decide (Pub n):=by
 rw [← Bool.decide_and]
 apply decide_eq_decide.2
 unfold Pub
 omega
theorem rightP_calls (n : Nat) (s : AS) : ACalls Tryz.prog Γ 141 [.v (.int .u64 n)] s (fun r s'=>r = .v (.bool (decide (Pub n)))∧s' = s):=by
 have:=powerRight_calls (Γ:=Γ) n s
 rwa [pub_bool] at this
theorem named_calls (l : List UInt8) (s : AS) : ACalls Tryz.prog Γ 157 [bytesV l .any] s (fun r s'=>r = .v (.bool (decide (1≤l.length∧l.length≤16)))∧s' = s):=by
 refine acalls_body Tryz.func157 rfl Tryz.ntmps157 Tryz.results157 (by simp) ?_
 refine jA ?_
 rcases ff2 (decide ((1 : Int)≤(l.length : Int))) (decide ((l.length : Int)≤16)) with hd | hd | hd
 all_goals
  refine jB @hd ?_
  refine jI ?_
  refine ⟨_,_,AV.weak.refl _,AS.le.refl _,?_,rfl⟩
  simp only [decide_eq_true_eq,decide_eq_false_iff_not] at hd
  congr 2
  first
   | exact (decide_eq_true (by omega)).symm
   | exact (decide_eq_false (by omega)).symm
theorem leaf_calls (n : Int) (s : AS) : ACalls Tryz.prog Γ 158 [.v (.int .i64 n)] s (fun r s'=>r = .v (.bool (decide (0≤n∧n < 32)))∧s' = s):=by
 refine acalls_body Tryz.func158 rfl Tryz.ntmps158 Tryz.results158 (by simp) ?_
 refine jA ?_
 rcases ff2 (decide (0≤n)) (decide (n < 32)) with hd | hd | hd
 all_goals
  refine jB @hd ?_
  refine jI ?_
  refine ⟨_,_,AV.weak.refl _,AS.le.refl _,?_,rfl⟩
  simp only [decide_eq_true_eq,decide_eq_false_iff_not] at hd
  congr 2
  first
   | exact (decide_eq_true (by omega)).symm
   | exact (decide_eq_false (by omega)).symm
theorem yesI {a b : Int} (h : a = b) : (a == b) = true:=by simpa using h
theorem notI {a b : Int} (h : a≠b) : (a == b) = false:=by simpa using h
theorem nat0 {a : Nat} (h : a = 0) : ((a : Int) == 0) = true:=by subst h; rfl
theorem nat0F {a : Nat} (h : a≠0) : ((a : Int) == 0) = false:=by simpa using h
theorem natN {a k : Nat} (h : a = k) : ((a : Int) == (k : Int)) = true:=by subst h; simp
theorem proper_calls (p : PropV) (s : AS) : ACalls Tryz.prog Γ 156 [.agg p.cells] s (fun r s'=>r = .v (.bool (decide p.right))∧s' = s):=by
 refine acalls_body Tryz.func156 rfl Tryz.ntmps156 Tryz.results156 (by simp) ?_
 obtain ⟨k,l,nm,key,ini⟩:=p
 unfold PropV.cells
 refine awp_reg_frz 1 (by simp [dsts]) ?_
 intro K hK
 simp only [↓DM,pval,DX,Nz,↓DN,Qa,Qb,Qc,Qd,Qe,Qf,Qg,Qh,reduceCtorEq,↓reduceIte,Na,Nb,Nc,Nk,Nf,Ng,Nh,Za,Zb,Zc,TT]
 intro o ho
 refine hK _ _ o _ (by simp only [upd,Nc,↓reduceIte]) ho ?_
 clear hK K ho
 refine wK fun K hK=>?_
 refine jA ?_
 refine awp_block ?_
 by_cases hk1 : k = 1
 ·refine jB (yesI hk1) ?_
  refine jE ?_
  by_cases h1 : l = 0
  ·refine jS (yesI h1) fun K hK=>?_
   refine acallk (named_calls nm _) ?_
   rintro r s1 ⟨rfl,rfl⟩
   by_cases h2 : 1≤nm.length∧nm.length≤16
   ·simp only [↓DM,pval,DX,Nz,↓DN,Qa,Qb,Qc,Qd,Qe,Qf,Qg,Qh,reduceCtorEq,↓reduceIte,Na,Nb,Nc,Nk,Nf,Ng,Nh,Za,Zb,Zc,TT,decide_eq_true h2]
    refine acallk (rightP_calls key _) ?_
    rintro r s2 ⟨rfl,rfl⟩
    by_cases h3 : Pub key
    ·simp only [↓DM,pval,DX,Nz,↓DN,Qa,Qb,Qc,Qd,Qe,Qf,Qg,Qh,reduceCtorEq,↓reduceIte,Na,Nb,Nc,Nk,Nf,Ng,Nh,Za,Zb,Zc,TT,decide_eq_true h3]
     refine acallk (rightP_calls ini _) ?_
     rintro r s3 ⟨rfl,rfl⟩
     refine jR hK ?_;clear hK K
     refine jI ?_
     exact ⟨_,_,AV.weak.refl _,AS.le.refl _,by simp [PropV.right,hk1,h1,h2,h3],rfl⟩
    ·refine jV (decide_eq_false h3) hK ?_;clear hK K
     refine jI ?_
     exact ⟨_,_,AV.weak.refl _,AS.le.refl _,by simp [PropV.right,hk1,h3],rfl⟩
   ·refine jV (decide_eq_false h2) hK ?_;clear hK K
    refine jI ?_
    exact ⟨_,_,AV.weak.refl _,AS.le.refl _,by simp [PropV.right,hk1]; omega,rfl⟩
  ·refine jB (notI h1) ?_
   refine jI ?_
   exact ⟨_,_,AV.weak.refl _,AS.le.refl _,by simp [PropV.right,hk1,h1],rfl⟩
 ·refine jB (notI hk1) ?_
  refine jF ?_
  by_cases hk2 : k = 2
  ·refine jB (yesI hk2) ?_
   refine jE ?_
   refine jQ fun K hK=>?_
   refine acallk (leaf_calls l _) ?_
   rintro r s1 ⟨rfl,rfl⟩
   by_cases h1 : 0≤l∧l < 32
   ·by_cases h2 : nm.length = 0
    ·simp only [↓DM,pval,DX,Nz,↓DN,Qa,Qb,Qc,Qd,Qe,Qf,Qg,Qh,reduceCtorEq,↓reduceIte,Na,Nb,Nc,Nk,Nf,Ng,Nh,Za,Zb,Zc,TT,decide_eq_true h1,nat0 h2]
     refine acallk (rightP_calls key _) ?_
     rintro r s2 ⟨rfl,rfl⟩
     by_cases h3 : Pub key
     ·by_cases h4 : ini = 0
      ·refine jV (Ai (decide_eq_true h3) (nat0 h4)) hK ?_;clear hK K
       refine jI ?_
       exact ⟨_,_,AV.weak.refl _,AS.le.refl _,by simp [PropV.right,hk2,h1,h3,h4,List.eq_nil_of_length_eq_zero h2],rfl⟩
      ·refine jV (Ai (decide_eq_true h3) (nat0F h4)) hK ?_;clear hK K
       refine jI ?_
       exact ⟨_,_,AV.weak.refl _,AS.le.refl _,by simp [PropV.right,hk2,h4],rfl⟩
     ·refine jV (decide_eq_false h3) hK ?_;clear hK K
      refine jI ?_
      exact ⟨_,_,AV.weak.refl _,AS.le.refl _,by simp [PropV.right,hk2,h3],rfl⟩
    ·refine jV (Ai (decide_eq_true h1) (nat0F h2)) hK ?_;clear hK K
     refine jI ?_
     exact ⟨_,_,AV.weak.refl _,AS.le.refl _,by simp [PropV.right,hk2]; intro _ _ h; exact absurd (by simp [h]) h2,rfl⟩
   ·refine jV (decide_eq_false h1) hK ?_;clear hK K
    refine jI ?_
    exact ⟨_,_,AV.weak.refl _,AS.le.refl _,by simp [PropV.right,hk2]; omega,rfl⟩
  ·refine jB (notI hk2) ?_
   refine jF ?_
   by_cases hk3 : k = 3
   ·refine jB (yesI hk3) ?_
    refine jE ?_
    refine jQ fun K hK=>?_
    refine acallk (leaf_calls l _) ?_
    rintro r s1 ⟨rfl,rfl⟩
    by_cases h1 : 0≤l∧l < 32
    ·rcases ff3 ((nm.length : Int) == 0) ((key : Int) == 0) ((ini : Int) == 0) with hd | hd | hd | hd
     all_goals
      refine jV (Ai (decide_eq_true h1) @hd) hK ?_;clear hK K
      refine jI ?_
      refine ⟨_,_,AV.weak.refl _,AS.le.refl _,?_,rfl⟩
      simp only [beq_iff_eq,beq_eq_false_iff_ne,ne_eq] at hd
      congr 2
      symm
      first
       | exact decide_eq_true (by unfold PropV.right; simp only; omega)
       | exact decide_eq_false (by unfold PropV.right; simp only; omega)
    ·refine jV (decide_eq_false h1) hK ?_;clear hK K
     refine jI ?_
     exact ⟨_,_,AV.weak.refl _,AS.le.refl _,by simp [PropV.right,hk3]; omega,rfl⟩
   ·refine jB (notI hk3) ?_
    refine jF ?_
    refine awp_skip ?_
    simp only [blockQ,thenQ,if_true,if_false]
    refine hK _ _ ?_;clear hK K
    refine jA ?_
    refine jI ?_
    exact ⟨_,_,AV.weak.refl _,AS.le.refl _,by simp [PropV.right,hk1,hk2,hk3],rfl⟩
end Go.Proofs.YtfjlmkifiihgkaaGreatDoor
namespace Go.Proofs.YtfjlmkifiihgkaaGreatDoor
open Go Go.AM Go.Proofs
variable {Γ : Nat→List AV}
theorem neI {a b : Int} (h : a≠b) : (a != b) = true:=by simpa using h
theorem eqI {a b : Int} (h : a = b) : (a != b) = false:=by simpa using h
end Go.Proofs.YtfjlmkifiihgkaaGreatDoor
namespace Go.Proofs.YtfjlmkifiihgkaaGreatDoor
open Go Go.AM Go.Proofs
variable {Γ : Nat→List AV}
theorem take_all {α : Type} {Q : α→Prop} {l : List α} {i : Nat} (h : i < l.length) (hall : ∀ x ∈ l.take i,Q x) (hx : Q l[i]) : ∀ x ∈ l.take (i + 1),Q x:=by
 rw [List.take_succ_eq_append_getElem h]
 intro p hp
 rcases List.mem_append.1 hp with hp | hp
 ·exact hall p hp
 ·simp only [List.mem_singleton] at hp
  subst hp
  exact hx
theorem take_full {α : Type} {Q : α→Prop} {l : List α} {i : Nat} (h : ¬ i < l.length) (hall : ∀ x ∈ l.take i,Q x) : ∀ x ∈ l,Q x:=by
 rwa [List.take_of_length_le (by omega)] at hall
theorem eye_succM (i : Nat) (h : i < 9223372036854775807) : iadd .i64 (i : Int) 1 = ((i + 1 : Nat) : Int):=by
 rw [iadd_i64 (by omega)]
 rfl
theorem n48 {n : Nat} (h : n = 48) : ((n : Int) != 48) = false:=by subst h; rfl
theorem n48T {n : Nat} (h : n≠48) : ((n : Int) != 48) = true:=by simp only [bne_iff_ne,ne_eq]; omega
theorem step_calls (p : StepV) (hl : p.seals.length≤9223372036854775807) (s : AS) : ACalls Tryz.prog Γ 220 [.agg p.cells] s (fun r s'=>r = .v (.bool (decide p.right))∧s' = s):=by
 refine acalls_body Tryz.func220 rfl Tryz.ntmps220 Tryz.results220 (by simp) ?_
 obtain ⟨key,ss⟩:=p
 simp only at hl
 unfold StepV.cells
 have hrow:=fun i (h : i < ss.length)=>row_at (c:=SealV.cells) (k:=2) (fun _=>rfl) h
 generalize hX : rowC SealV.cells ss = X at *
 refine awp_reg_frz 1 (by simp [dsts]) ?_
 intro K hK
 simp only [↓DM,pval,DX,Nz,↓DN,Qa,Qb,Qc,Qd,Qe,Qf,Qg,Qh,reduceCtorEq,↓reduceIte,Na,Nb,Nc,Nk,Nf,Ng,Nh,Za,Zb,Zc,TT]
 intro o ho
 refine hK _ _ o _ (by simp only [upd,Nc,↓reduceIte]) ho ?_
 clear hK K ho
 refine wK fun K hK=>?_
 refine jA ?_
 refine awp_block ?_
 refine awp_loop (fun E s1=>∃ i : Nat,i≤ss.length∧E 8 = .v (.int .i64 i)∧E 7 = .v (.int .i64 ss.length)∧E 6 = .sl 2 ss.length X .any∧E 1 = .rop [.v (.int .u64 key),.sl 2 ss.length X .any]∧(∀ p ∈ ss.take i,p.right)∧s1 = s)
  (fun E _=>match E 8 with | .v (.int _ i)=>ss.length - i.toNat | _=>0) ?_ ?_
 ·exact ⟨0,Nat.zero_le _,by simp only [upd,↓reduceIte]; rfl,by simp only [upd,Nc,↓reduceIte],by simp only [upd,Nc,↓reduceIte],by simp only [upd,Nc,↓reduceIte],by simp,rfl⟩
 ·rintro E1 s1 ⟨i,hi,g8,g7,g6,g1,hall,rfl⟩ -
  by_cases hi' : i < ss.length
  ·refine jB (Ai @g8 (Ai @g7 (Ai @eye_lt_nat (decide_eq_true hi')))) ?_
   refine wK fun K3 hK3=>?_
   refine jE ?_
   refine awp_skip ?_
   refine hK3 _ _ ?_;clear hK3 K3
   refine wK fun K3 hK3=>?_
   refine awp_block ?_
   have hat:=hrow i hi'
   have hge : (0 : Int)≤(i : Int):=by omega
   obtain ⟨y,hy⟩ : ∃ y,y = ss[i]:=⟨_,rfl⟩
   rw [← hy] at hat
   have hym : y ∈ ss:=by rw [hy]; exact List.getElem_mem hi'
   have htk : y.right→∀ x ∈ ss.take (i + 1),x.right:=fun h=>take_all hi' hall (by rw [← hy]; exact h)
   have hbad : ¬ y.right→decide (StepV.right ⟨key,ss⟩) = false:=fun h=>decide_eq_false fun hr=>h (hr.1 y hym)
   clear hy
   obtain ⟨f,t⟩:=y
   unfold SealV.cells at hat
   refine awp_reg_frz 4 (by simp [dsts]) ?_
   intro K2 hK2
   simp only [↓DM,pval,DX,Nz,↓DN,Qa,Qb,Qc,Qd,Qe,Qf,Qg,Qh,reduceCtorEq,↓reduceIte,Na,Nb,Nc,Nk,Nf,Ng,Nh,Za,Zb,Zc,TT,g8,g6,eye_lt_nat,hi',hge,hat]
   intro o ho
   refine hK2 _ _ o _ (by simp only [upd,Nc,↓reduceIte]) ho ?_
   clear hK2 K2 ho
   refine jQ fun K hK=>?_
   refine acallk (rightP_calls f _) ?_
   rintro r s2 ⟨rfl,rfl⟩
   by_cases h1 : Pub f
   ·by_cases h2 : t.length = 48
    ·refine jV (Ai (decide_eq_true h1) (n48 h2)) hK ?_;clear hK K
     refine jF ?_
     refine awp_skip ?_
     simp only [blockQ,thenQ,if_true,if_false]
     refine hK3 _ _ ?_;clear hK3 K3
     refine jD (Ai @g8 (eye_succM i (by omega))) ?_
     refine ⟨⟨i + 1,by omega,by simp only [upd,↓reduceIte],by simp only [upd,g7,Nc,↓reduceIte],by simp only [upd,g6,Nc,↓reduceIte],by simp only [upd,g1,Nc,↓reduceIte],htk ⟨h1,h2⟩,rfl⟩,?_⟩
     simp only [g8,upd,↓reduceIte]
     omega
    ·refine jV (Ai (decide_eq_true h1) (n48T h2)) hK ?_;clear hK K
     refine jE ?_
     refine jA ?_
     refine jI ?_
     exact ⟨_,_,AV.weak.refl _,AS.le.refl _,by rw [hbad fun h=>h2 h.2],rfl⟩
   ·refine jV (decide_eq_false h1) hK ?_;clear hK K
    refine jE ?_
    refine jA ?_
    refine jI ?_
    exact ⟨_,_,AV.weak.refl _,AS.le.refl _,by rw [hbad fun h=>h1 h.1],rfl⟩
  ·have hfull:=take_full hi' hall
   refine jB (Ai @g8 (Ai @g7 (Ai @eye_lt_nat (decide_eq_false hi')))) ?_
   refine wK fun K3 hK3=>?_
   refine jF ?_
   refine awp_exit ?_
   simp only [thenQ,blockQ,if_true]
   refine hK _ _ ?_;clear hK K hK3 K3
   refine jS @g1 fun K hK=>?_
   refine acallk (rightP_calls key _) ?_
   rintro r s2 ⟨rfl,rfl⟩
   by_cases h1 : Pub key
   ·refine jV (Ai @g1 (decide_eq_true h1)) hK ?_;clear hK K
    refine jI ?_
    refine ⟨_,_,AV.weak.refl _,AS.le.refl _,?_,rfl⟩
    congr 2
    refine decide_eq_decide.2 ⟨fun h=>⟨hfull,h1,by simp only; omega⟩,fun h=>by have:=h.2.2; simp only at this; omega⟩
   ·refine jV (Ai @g1 (decide_eq_false h1)) hK ?_;clear hK K
    refine jI ?_
    exact ⟨_,_,AV.weak.refl _,AS.le.refl _,by rw [decide_eq_false fun h=>h1 h.2.1],rfl⟩
end Go.Proofs.YtfjlmkifiihgkaaGreatDoor
