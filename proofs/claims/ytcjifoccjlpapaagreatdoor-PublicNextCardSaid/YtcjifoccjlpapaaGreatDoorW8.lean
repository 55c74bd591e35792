/- Contracts of functions, each walked once; each theorem states its conditions. -/
import Derived.Test.YtcjifoccjlpapaaGreatDoorAMp6
import Derived.Test.YtcjifoccjlpapaaGreatDoorW1
import Derived.Test.YtcjifoccjlpapaaGreatDoorW7
import Derived.Test.YtcjifoccjlpapaaGreatDoorW3
import Derived.Test.YtcjifoccjlpapaaGreatDoorW2
import Derived.Test.YtcjifoccjlpapaaGreatDoorAMp5
import Derived.Test.YtcjifoccjlpapaaGreatDoorW6
import Derived.Test.YtcjifoccjlpapaaGreatDoorW4
import Derived.Test.YtcjifoccjlpapaaGreatDoorAMp4
import Derived.Test.YtcjifoccjlpapaaGreatDoorAMp7
import Derived.Test.YtcjifoccjlpapaaGreatDoorW5
set_option linter.unusedSimpArgs false
set_option linter.unusedVariables false
open Nat renaming reduceLT → Na, reduceLeDiff → Nb, reduceEqDiff → Nc, reduceAdd → Nk, reduceMul → Nf, reducePow → Ng, reduceSub → Nh, reduceBEq → Nz
open Int renaming reduceLT → Za, reduceLE → Zb, reduceToNat → Zc
open And renaming intro → Ai
open Go.AM renaming ashift → Qa, aconv → Qb, aindexAddr → Qc, aindex → Qd, aslice → Qe, abuiltin → Qf, awp_reg_seq → wS, awp_reg_end → wE, awp_seq_k → wK, awp_cond_k → wC
open Go.AM.AV renaming cells → Qg, one → Qh
set_option maxRecDepth 100000
set_option maxHeartbeats 8000000
namespace Go.Proofs.YtcjifoccjlpapaaGreatDoor
open Go Go.AM Go.Proofs Tryz
variable {Γ : Nat→List AV}
theorem KI {t : List aa} {name : List UInt8} (h1 : aA t) (h : 0≤fa t name 0) : 0≤mL t name:=by
 have h2:=(rK (fun j=>decide (bx t j∧(nd t (2 * j)).name = name)) (iS t - 0) 0).1 (decide_eq_true h);obtain ⟨j,_,hj,hp⟩:=h2;obtain ⟨a,b⟩:=of_decide_eq_true hp;rcases nM (t:=t) name with ⟨k,_,_,_,h4,_⟩ | ⟨_,h5⟩
 ·omega
 ·exact absurd ⟨(fq h1.1 _).2 a,b⟩ (h5 j (by omega))
theorem zJ (t : List aa) (ht : cV t) (name : List UInt8) (key : Nat) (hn : name.length≤2 ^ 45) (s : AS) :
  ah prog Γ 34 [ax t,.v (.string ⟨name.toArray⟩),.v (.int .u64 key)] s (fun r s'=>r = .dZ [fm (eo t name key).1,.v (.int .i64 (eo t name key).2.1),.v (.int .i64 (eo t name key).2.2)]∧s.le s'):=by
 have hc:=fun s=>jk (Γ:=Γ) name key hn s;have hr:=fun s=>cK (Γ:=Γ) t ht s;have AJ:=fun s=>ke (Γ:=Γ) (bq name key) (by simp [bq]) s;have CU:=fun s=>mQ (Γ:=Γ) t ht.1 name s;have cZ : (bq name key).cells = [.v (.int .i64 1),ak name .any,.v (.int .u64 key),ak [] .any,aC [] .any]:=rfl;rw [cZ] at hc AJ;by_cases h1 : aA t
 ·rw [decide_eq_true h1] at hr;by_cases h2 : (bq name key).right
  ·by_cases h3 : 0≤fa t name 0
   ·have bR : eo t name key = ([],0,31):=(by unfold eo; rw [if_neg (fun h=>h h1),if_neg (fun h=>h h2),if_pos h3]);rw [bR];have FV:=KI h1 h3;generalize mL t name = nr at *
    rw [decide_eq_true h2] at AJ;refine ab func34 rfl ntmps34 results34 (by simp) ?_;unfold ak aC at *
    unfold ax at *
    generalize au aa.cells t = X at *
    refine jA ?_;refine wK fun K hK=>?_;refine jK (hr _) ?_;rintro s1 rfl;refine jF ?_;refine ad ?_;refine hK _ _ ?_;clear hK K;refine az 9 (by decide) ?_;intro K hK;refine jM ?_;refine ae (hc _) ?_;rintro r s2 ⟨rfl,rfl⟩;refine jM ?_;intro o ho;refine hK _ _ o _ rfl ho ?_;clear hK K ho;refine wK fun K hK=>?_;refine jK (AJ _) ?_;rintro s3 rfl;refine jF ?_;refine ad ?_;refine hK _ _ ?_;clear hK K;refine wK fun K hK=>?_;refine jQ fun K hK=>?_;refine ae (CU _) ?_;rintro r s4 ⟨rfl,rfl⟩;refine jV (decide_eq_true FV) hK ?_;clear hK K;refine jE ?_;refine jA ?_;refine jI ?_;exact jW ⟨rfl,AS.le.refl _⟩
   ·exact wU t ht name key hn h1 h2 h3 s
  ·have bR : eo t name key = ([],0,2):=(by unfold eo; rw [if_neg (fun h=>h h1),if_pos h2]);rw [bR];rw [decide_eq_false h2] at AJ;refine ab func34 rfl ntmps34 results34 (by simp) ?_;unfold ak aC at *
   unfold ax at *
   generalize au aa.cells t = X at *
   refine jA ?_;refine wK fun K hK=>?_;refine jK (hr _) ?_;rintro s1 rfl;refine jF ?_;refine ad ?_;refine hK _ _ ?_;clear hK K;refine az 9 (by decide) ?_;intro K hK;refine jM ?_;refine ae (hc _) ?_;rintro r s2 ⟨rfl,rfl⟩;refine jM ?_;intro o ho;refine hK _ _ o _ rfl ho ?_;clear hK K ho;refine wK fun K hK=>?_;refine jK (AJ _) ?_;rintro s3 rfl;refine jE ?_;refine jA ?_;refine jI ?_;exact jW ⟨rfl,AS.le.refl _⟩
 ·have bR : eo t name key = ([],0,40):=if_pos h1;rw [bR];rw [decide_eq_false h1] at hr;refine ab func34 rfl ntmps34 results34 (by simp) ?_;unfold ax at *
  generalize au aa.cells t = X at *
  refine jA ?_;refine wK fun K hK=>?_;refine jK (hr _) ?_;rintro s1 rfl;refine jE ?_;refine jA ?_;refine jI ?_;exact jW ⟨rfl,AS.le.refl _⟩
instance (t : List aa) : Decidable (cV t):=by unfold cV; infer_instance
def pM (n : aa) : Prop:=n.name.length≤40∧n.parent.length≤60∧n.fF.length≤40
def NH (t : List aa) : Prop:=t.length≤63∧∀ n ∈ t,pM n
instance (n : aa) : Decidable (pM n):=by unfold pM; infer_instance
instance (t : List aa) : Decidable (NH t):=by unfold NH; infer_instance
theorem FU (a b : List aa) (ha : cV a) (s : AS) : ah prog Γ 12 [fm a,fm b] s (fun r s'=>r = .v (.bool (decide (a = b)))∧s' = s):=by
  have hw : ∀ t,(fm t).aL (ax t):=by
    intro t;unfold fm;split
    · rename_i h;rw [h];exact AV.aP
    · exact AV.aL.refl _
  exact ah.jq (.cons (hw a) (.cons (hw b) .nil)) (vj a b ha s)
end Go.Proofs.YtcjifoccjlpapaaGreatDoor
namespace Go.AM
open Go
theorem cP.tree {iu : List AV} (h : cP (.slice 5 (.struct (.cons Ho (.cons EW (.cons (.int .u64) (.cons EW (.cons (.slice 1 Ho) .nil))))))) iu) : ∃ t : List aa,iu = [ax t]∧∀ n ∈ t,n.key < 2 ^ 64:=by
  obtain ⟨els,rfl,_,bT⟩:=cP.rows h;have key : ∀ els : List (List AV),(∀ el ∈ els,el.length = 5∧cP (.struct (.cons Ho (.cons EW (.cons (.int .u64) (.cons EW (.cons (.slice 1 Ho) .nil)))))) el)→∃ t : List aa,els = t.map aa.cells∧∀ n ∈ t,n.key < 2 ^ 64:=by
    intro els;induction els with
    | nil=>intro _; exact ⟨[],rfl,fun n hn=>by cases hn⟩
    | cons e els ih =>
      intro h;obtain ⟨t,rfl,h2⟩:=ih (fun el xh=>h el (by simp [xh]));obtain ⟨_,h1⟩:=h e (by simp);obtain ⟨N,rfl,hN⟩:=cP.node h1;refine ⟨N :: t,rfl,fun n hn=>?_⟩;rcases List.mem_cons.1 hn with rfl | hn
      · exact hN
      · exact h2 n hn
  obtain ⟨t,rfl,h2⟩:=key els bT;refine ⟨t,?_,h2⟩;unfold ax au;rw [List.length_map]
def qG (k : Nat) (l : List UInt8) : List UInt8:=be k l.length ++ l
def aF.body (p : aF) : List UInt8:=if p.kind = 1 then qG 1 p.name ++ (be 8 p.key ++ be 8 p.init) else if p.kind = 2 then be 1 p.leaf.toNat ++ be 8 p.key else be 1 p.leaf.toNat
def aF.text (p : aF) : List UInt8:=be 1 p.kind.toNat ++ p.body
def bQ.gw (x : bQ) : List UInt8:=be 8 x.frm ++ qG 2 x.text
def bS {α : Type} (f : α→List UInt8) (l : List α) : List UInt8:=(l.map f).flatten
def bk.text (x : bk) : List UInt8:=be 8 x.key ++ (be 1 x.oO.length ++ bS bQ.gw x.oO)
def ck.text (x : ck) : List UInt8:=be 8 x.key ++ (qG 1 x.parent ++ (be 1 x.steps.length ++ bS bk.text x.steps))
def aI.tail (c : aI) : List UInt8:=if c.gZ then be 1 1 ++ c.path.text else be 1 0
def aI.content (c : aI) : List UInt8 :=
  be 1 1 ++ (qG 1 c.group ++ (be 8 c.b8.toNat ++ (be 1 c.br.toNat ++ (be 1 c.props.length ++ (bS aF.text c.props ++ c.tail)))))
def aI.text (c : aI) : List UInt8:=c.content ++ (qG 1 c.gY ++ qG 1 c.DU)
theorem j8 {α : Type} (f : α→List UInt8) {l : List α} {i : Nat} (h : i < l.length) : bS f (l.take (i + 1)) = bS f (l.take i) ++ f l[i]:=by
  unfold bS;rw [List.take_succ_eq_append_getElem h,List.map_append,List.flatten_append];simp only [List.map_cons,List.map_nil,List.flatten_cons,List.flatten_nil,List.append_nil]
theorem gd {α : Type} {f : α→List UInt8} {n : Nat} : ∀ {l : List α},(∀ x ∈ l,(f x).length≤n)→(bS f l).length≤l.length * n
  | [],_=>by simp [bS]
  | a :: l,h=>by
    have ih:=gd (l:=l) fun x hx=>h x (by simp [hx]);have h1:=h a (by simp);have : bS f (a :: l) = f a ++ bS f l:=rfl;rw [this,List.length_append,List.length_cons,Nat.succ_mul];omega
theorem fJ (k : Nat) (l : List UInt8) : (qG k l).length = k + l.length:=by simp [qG]
theorem bQ.rB {x : bQ} (h : x.right) : x.gw.length≤58:=by
  have:=h.2;simp [bQ.gw,fJ]; omega
theorem bk.dQ {x : bk} (h : x.right) : x.text.length≤1865:=by
  have h1:=gd (f:=bQ.gw) (n:=58) fun y hy=>bQ.rB (h.1 y hy);have h2:=h.2.2;have h3 : x.oO.length * 58≤32 * 58:=Nat.mul_le_mul_right _ h2;simp [bk.text]; omega
theorem ck.dQ {x : ck} (h : x.right) : x.text.length≤9400:=by
  have h1:=gd (f:=bk.text) (n:=1865) fun y hy=>bk.dQ (h.1 y hy);have h2:=h.2.2.2;have h4:=h.2.2.1;have h3 : x.steps.length * 1865≤5 * 1865:=Nat.mul_le_mul_right _ h2;simp [ck.text,fJ]; omega
theorem aF.dQ {x : aF} (h : x.right) : x.text.length≤40:=by
  unfold aF.text aF.body;rcases h with ⟨h1,h2,h3,h4,_⟩ | ⟨h1,h2,h3,h4,_⟩ | ⟨h1,h2,h3,h4,_⟩
  · rw [if_pos h1]; simp [fJ]; omega
  · rw [if_neg (by omega),if_pos h1]; simp
  · rw [if_neg (by omega),if_neg (by omega)]; simp
theorem aI.qU {c : aI} (h : c.right) : c.content.length≤12000:=by
  obtain ⟨h1,h2,h3,h4,h5,h6,h7,h8⟩:=h;have q1:=gd (f:=aF.text) (n:=40) fun y hy=>aF.dQ (h1 y hy);have q2 : c.props.length * 40≤16 * 40:=Nat.mul_le_mul_right _ h5;have q3 : c.tail.length≤9401:=by
    unfold aI.tail;split
    · rename_i hp;have:=ck.dQ (h6.1 hp);simp; omega
    · simp
  simp [aI.content,fJ]; omega
end Go.AM
namespace Go.AM
namespace Kdf
variable (oo info : List UInt8)
def Eo : Nat→List UInt8
  | 0=>[]
  | i + 1=>Mac.tag oo (Eo i ++ info ++ [UInt8.ofNat (i + 1)])
def row : Nat→List UInt8
  | 0=>[]
  | i + 1=>row i ++ Eo oo info (i + 1)
theorem Qn (i : Nat) : (Eo oo info (i + 1)).length = 32:=Mac.D4 _ _
theorem cL : ∀ i : Nat,(row oo info i).length = 32 * i
  | 0=>rfl
  | i + 1=>by rw [row,List.length_append,cL i,Qn]; omega
def rounds (n : Nat) : Nat:=(n + 31) / 32
def expand (n : Nat) : List UInt8:=(row oo info (rounds n)).take n
def ok (n : Int) : Bool:=decide (0≤n) && decide (n≤8160)
def get (n : Int) : List UInt8:=if ok n = true then expand oo info n.toNat else []
end Kdf
namespace Kdf
def mls : List UInt8:=[109,108,115,32]
def fits (l c : List UInt8) (n : Int) : Bool:=decide (l.length≤251) && decide (c.length≤65535) && decide (0≤n) && decide (n≤8160)
def text (l c : List UInt8) (n : Nat) : List UInt8:=be 2 n ++ (be 1 (mls ++ l).length ++ (mls ++ l)) ++ (be 2 c.length ++ c)
def label (oo l c : List UInt8) (n : Int) : List UInt8:=if fits l c n = true then expand oo (text l c n.toNat) n.toNat else []
def derive (oo l : List UInt8) : List UInt8:=label oo (l.take 251) [] 32
def pen (l c : List UInt8) (n : Int) : List UInt8 × Bool:=fD 2 c (fD 1 (mls ++ l) (bU 2 n ([],false)))
theorem dQ (k : Nat) (m : List UInt8) (st : List UInt8 × Bool) : (fD k m st).1.length≤st.1.length + k + m.length:=by
  have:=gU k (m.length : Int) st;unfold fD cy;split
  · omega
  · simp only [List.length_append];omega
end Kdf
namespace Sch
def TQ : List UInt8:=[101,112,111,99,104]
def NJ : List UInt8:=[119,101,108,99,111,109,101]
def KJ : List UInt8:=[101,120,112,111,114,116,101,114]
def NK : List UInt8:=[99,111,110,102,105,114,109]
def Qo : List UInt8:=[109,101,109,98,101,114,115,104,105,112]
def ZL : List UInt8:=[105,110,105,116]
def main (j : List UInt8) : List UInt8:=Mac.tag j (List.replicate 32 0)
def b8 (j c : List UInt8) : List UInt8:=Kdf.label (main j) TQ c 32
def of (j c : List UInt8) : List (List UInt8):=[j,Kdf.derive (main j) NJ,Kdf.derive (b8 j c) KJ,Kdf.derive (b8 j c) NK,Kdf.derive (b8 j c) Qo,Kdf.derive (b8 j c) ZL]
end Sch
namespace Aes
def dbl (a : UInt8) : UInt8:=(a <<< (1 : UInt8)) ^^^ ((27 : UInt8) &&& ((0 : UInt8) - (a >>> (7 : UInt8))))
def gm : Nat→UInt8→UInt8→UInt8→UInt8
  | 0,o,_,_=>o
  | f + 1,o,a,b=>gm f (o ^^^ (a &&& ((0 : UInt8) - (b &&& 1)))) (dbl a) (b >>> 1)
def pw : Nat→UInt8→UInt8→Nat→UInt8
  | 0,o,_,_=>o
  | f + 1,o,a,n=>pw f (if n % 2 = 1 then gm 8 0 o a else o) (gm 8 0 a a) (n / 2)
def inv (a : UInt8) : UInt8:=pw 8 1 a 254
def rot (x : UInt8) (i : Nat) : UInt8:=UInt8.ofNat (x.toNat * 2 ^ i) ||| UInt8.ofNat (x.toNat / 2 ^ (8 - i))
def ZM (x : UInt8) : Nat→UInt8
  | 0=>99 ^^^ x
  | k + 1=>ZM x k ^^^ rot x (k + 1)
def box (c : UInt8) : UInt8:=ZM (inv c) 4
def sb : List UInt8:=[99,124,119,123,242,107,111,197,48,1,103,43,254,215,171,118,202,130,201,125,250,89,71,240,173,212,162,175,156,164,114,192,183,253,147,38,54,63,247,204,52,165,229,241,113,216,49,21,4,199,35,195,24,150,5,154,7,18,128,226,235,39,178,117,9,131,44,26,27,110,90,160,82,59,214,179,41,227,47,132,83,209,0,237,32,252,177,91,106,203,190,57,74,76,88,207,208,239,170,251,67,77,51,133,69,249,2,127,80,60,159,168,81,163,64,143,146,157,56,245,188,182,218,33,16,255,243,210,205,12,19,236,95,151,68,23,196,167,126,61,100,93,25,115,96,129,79,220,34,42,144,136,70,238,184,20,222,94,11,219,224,50,58,10,73,6,36,92,194,211,172,98,145,149,228,121,231,200,55,109,141,213,78,169,108,86,244,234,101,122,174,8,186,120,37,46,28,166,180,198,232,221,116,31,75,189,139,138,112,62,181,102,72,3,246,14,97,53,87,185,134,193,29,158,225,248,152,17,105,217,142,148,155,30,135,233,206,85,40,223,140,161,137,13,191,230,66,104,65,153,45,15,176,84,187,22]
def S (x : UInt8) : UInt8:=sb.getD x.toNat 0
def pwr : Nat→UInt8
  | 0=>1
  | r + 1=>dbl (pwr r)
def nx (k : List UInt8) (p : UInt8) : List UInt8 :=
  match k with
  | [k0,k1,k2,k3,k4,k5,k6,k7,k8,k9,Uf,GN,Fq,GO,V6,HD] =>
    let a0:=(k0 ^^^ S GO) ^^^ p
    let a1:=k1 ^^^ S V6
    let a2:=k2 ^^^ S HD
    let a3:=k3 ^^^ S Fq
    let b0:=k4 ^^^ a0
    let b1:=k5 ^^^ a1
    let b2:=k6 ^^^ a2
    let b3:=k7 ^^^ a3
    let c0:=k8 ^^^ b0
    let c1:=k9 ^^^ b1
    let c2:=Uf ^^^ b2
    let c3:=GN ^^^ b3
    [a0,a1,a2,a3,b0,b1,b2,b3,c0,c1,c2,c3,Fq ^^^ c0,GO ^^^ c1,V6 ^^^ c2,HD ^^^ c3]
  | _=>[]
def kr (key : List UInt8) : Nat→List UInt8
  | 0=>key
  | r + 1=>nx (kr key r) (pwr r)
def sh (b : List UInt8) (n : Nat) : UInt8:=S (b.getD (4 * ((n / 4 + n % 4) % 4) + n % 4) 0)
def mx (c : Nat→UInt8) (i : Nat) : UInt8:=(((dbl (c i) ^^^ dbl (c ((i + 1) % 4))) ^^^ c ((i + 1) % 4)) ^^^ c ((i + 2) % 4)) ^^^ c ((i + 3) % 4)
def rnd (b : List UInt8) (last : Bool) : List UInt8:=(List.range 16).map fun n=>if last then sh b n else mx (fun i=>sh b (4 * (n / 4) + i)) (n % 4)
def add (b k : List UInt8) : List UInt8:=(List.range 16).map fun n=>b.getD n 0 ^^^ k.getD n 0
def state (key b : List UInt8) : Nat→List UInt8
  | 0=>add b (kr key 0)
  | r + 1=>add (rnd (state key b r) (r + 1 == 10)) (kr key (r + 1))
def block (key b : List UInt8) : List UInt8:=state key b 10
def first (ln : List UInt8) : Nat:=UU (ln.drop 12)
def ctr (ln : List UInt8) (i : Nat) : List UInt8:=ln.take 12 ++ be 4 ((first ln + i) % 4294967296)
def ZN (key ln : List UInt8) (p : Nat) : UInt8:=(block (key.take 16) (ctr ln (p / 16))).getD (p % 16) 0
def mask (key ln text : List UInt8) : List UInt8:=(List.range text.length).map fun p=>text.getD p 0 ^^^ ZN key ln p
def tag (key ln beside masked : List UInt8) : List UInt8:=(Mac.tag (key.drop 16) (be 4 beside.length ++ (beside ++ (ln ++ masked)))).take 16
theorem D4 (key ln beside masked : List UInt8) : (tag key ln beside masked).length = 16:=by simp [tag,Mac.D4]
def xc7 (key ln beside text : List UInt8) : List UInt8:=mask key ln text ++ tag key ln beside (mask key ln text)
end Aes
namespace Vault
def k0 : List UInt8:=[169,244,63,67,64,52,17,249,117,86,100,57,122,167,125,1,230,91,103,131,115,144,199,68,248,159,166,218,250,248,1,114,135,15,162,208,108,252,211,18,83,148,90,178,179,251,67,14]
def n3 : List UInt8:=[8,190,219,198,217,21,206,227,25,6,89,27,186,224,186,54]
def n4 : List UInt8:=[184,102,163,253,77,158,128,5,108,65,104,250,253,115,180,138]
def m3 : List UInt8:=[247,169,26,226,24,129,224,169,173,123,5,148,71,154,82,74,108,148,179,118,179,215,27,211,244,97,172,107,233,136,76,169]
def t3 : List UInt8:=[8,206,240,108,85,27,1,138,119,108,80,208,57,159,143,149]
end Vault
open Go
def xc8 (l : List (List UInt8)) : AV:=.sl 1 l.length (l.map fun b=>ak b .any) .any
def NM (l : List (List UInt8)) : Prop:=l.length≤12∧∀ b ∈ l,b.length≤4000
instance (l : List (List UInt8)) : Decidable (NM l):=by unfold NM; infer_instance
structure ZO where
  kind : Int
  leaf : Int
  name : List UInt8
  key : Nat
def ZO.cells (a : ZO) : List AV:=[.v (.int .i64 a.kind),.v (.int .i64 a.leaf),ak a.name .any,.v (.int .u64 a.key)]
theorem NP {n : aa} (h : n.right) : n.key < 2 ^ 64:=by
  rcases j7 h with hk | hk | hk
  · rw [(j6 hk).1 h]; decide
  · have:=((dT hk).1 h).2.2.1.2.1; omega
  · have:=((eQ hk).1 h).2.1.2.1; omega
theorem tr {t : List aa} (h : aA t) : cV t:=by
  have hl:=h.len;have:=hl.2.le;refine ⟨by omega,fun n hn=>⟨by have:=(gM (h.nodes hn)).2.2; omega,NP (h.nodes hn)⟩⟩
structure tK (t : List aa) (n : Nat) : Prop where
  right : aA t
  out : ∀ k : Nat,n≤k→¬ bx t (k : Int)
  len : n≤32
theorem oK {t : List aa} (h : aA t) : t.length≠0:=by
  have:=h.len;have:=this.2.le;omega
theorem fold_add {t : List aa} {n : Nat} (hF : tK t n) (name : List UInt8) (key : Nat) : (eo t name key).2.2≠0 ∨
    ∃ (t' : List aa) (v : Nat),eo t name key = (t',v,0)∧v < 32∧(∀ k : Nat,k < v→bx t (k : Int))∧¬ bx t (v : Int)∧(∀ m : Nat,n≤m→v < m→m≤32→tK t' m)∧(∀ j : Nat,nameAt t' j = if j = v then name else nameAt t j):=by
  unfold eo;rw [if_neg (fun h=>h hF.right)];by_cases h1 : (bq name key).right
  · rw [if_neg (fun h=>h h1)];by_cases h2 : 0≤fa t name 0
    · rw [if_pos h2]; exact .inl (by decide)
    · rw [if_neg h2];by_cases h3 : aM t = 32
      · rw [if_pos h3]; exact .inl (by decide)
      · rw [if_neg h3];obtain ⟨f1,f2,f3⟩:=mP t;have hl:=fL t;have CU:=fun j=>KD hF.right h1 rfl h2 h3 j;refine .inr ⟨_,_,rfl,by omega,f3,f2,fun m h4 h5 h6=>⟨rh hF.right h1 rfl h2 h3,fun k hk hm=>?_,h6⟩,fun j=>(CU j).2⟩;rcases (CU k).1.1 hm with e | e
        · omega
        · exact hF.out k (by omega) e
  · rw [if_pos h1]; exact .inl (by decide)
theorem NQ {t : List aa} {n : Nat} (hF : tK t n) (leaf : Int) (key : Nat) : (fV t leaf key).2≠0 ∨
    ∃ t' : List aa,fV t leaf key = (t',0)∧tK t' n∧(∀ j : Nat,nameAt t' j = nameAt t j):=by
  unfold fV;rw [if_neg (fun h=>h hF.right)];by_cases h1 : bx t leaf
  · rw [if_neg (fun h=>h h1)];by_cases h2 : wO key
    · rw [if_neg (fun h=>h h2)];obtain ⟨l,rfl⟩:=Int.eq_ofNat_of_zero_le h1.1;rw [Int.toNat_natCast];have CU:=fun j=>KF hF.right h1 key j;have nF:=(dT ((bW rfl _).1 h1).2).1 (hF.right.nd _);exact .inr ⟨_,rfl,⟨AB hF.right h1 (AF.2 ⟨nF.1,nF.2.1,h2⟩),fun k hk hm=>hF.out k hk ((CU k).1.1 hm),hF.len⟩,fun j=>(CU j).2⟩
    · rw [if_pos h2]; exact .inl (by decide)
  · rw [if_pos h1]; exact .inl (by decide)
theorem Qp {t : List aa} {n : Nat} (hF : tK t n) (leaf : Int) : (fW t leaf).2≠0 ∨
    ∃ (t' : List aa) (l : Nat),leaf = (l : Int)∧fW t leaf = (t',0)∧l < n∧tK t' n∧(∀ j : Nat,nameAt t' j = if j = l then [] else nameAt t j):=by
  unfold fW;rw [if_neg (fun h=>h hF.right)];by_cases h1 : bx t leaf
  · rw [if_neg (fun h=>h h1)];by_cases h2 : dF (bx t) 0 (aY t) = 1
    · rw [if_pos h2]; exact .inl (by decide)
    · rw [if_neg h2];obtain ⟨l,rfl⟩:=Int.eq_ofNat_of_zero_le h1.1;rw [Int.toNat_natCast];have hl:=((bW rfl _).1 h1).1;have CU:=fun j=>NC hF.right hl j;have yA : l < n:=Nat.lt_of_not_le fun q=>hF.out l q h1;exact .inr ⟨_,l,rfl,rfl,yA,⟨rR hF.right hl,fun k hk hm=>hF.out k hk ((CU k).1.1 hm).2,hF.len⟩,fun j=>(CU j).2⟩
  · rw [if_pos h1]; exact .inl (by decide)
theorem NR (t : List aa) (name : List UInt8) (key : Nat) : ((eo t name key).1 = []∧(eo t name key).2.2≠0)∨(aA (eo t name key).1∧(eo t name key).2.2 = 0):=by
  unfold eo;by_cases h0 : aA t
  · rw [if_neg (fun h=>h h0)];by_cases h1 : (bq name key).right
    · rw [if_neg (fun h=>h h1)];by_cases h2 : 0≤fa t name 0
      · rw [if_pos h2]; exact .inl ⟨rfl,by decide⟩
      · rw [if_neg h2];by_cases h3 : aM t = 32
        · rw [if_pos h3]; exact .inl ⟨rfl,by decide⟩
        · rw [if_neg h3];exact .inr ⟨rh h0 h1 rfl h2 h3,rfl⟩
    · rw [if_pos h1]; exact .inl ⟨rfl,by decide⟩
  · rw [if_pos h0]; exact .inl ⟨rfl,by decide⟩
theorem NU (t : List aa) (leaf : Int) (key : Nat) : ((fV t leaf key).1 = []∧(fV t leaf key).2≠0)∨(aA (fV t leaf key).1∧(fV t leaf key).2 = 0):=by
  unfold fV;by_cases h0 : aA t
  · rw [if_neg (fun h=>h h0)];by_cases h1 : bx t leaf
    · rw [if_neg (fun h=>h h1)];by_cases h2 : wO key
      · rw [if_neg (fun h=>h h2)];obtain ⟨l,rfl⟩:=Int.eq_ofNat_of_zero_le h1.1;rw [Int.toNat_natCast];have nF:=(dT ((bW rfl _).1 h1).2).1 (h0.nd _);exact .inr ⟨AB h0 h1 (AF.2 ⟨nF.1,nF.2.1,h2⟩),rfl⟩
      · rw [if_pos h2]; exact .inl ⟨rfl,by decide⟩
    · rw [if_pos h1]; exact .inl ⟨rfl,by decide⟩
  · rw [if_pos h0]; exact .inl ⟨rfl,by decide⟩
theorem Qq (t : List aa) (leaf : Int) : ((fW t leaf).1 = []∧(fW t leaf).2≠0)∨(aA (fW t leaf).1∧(fW t leaf).2 = 0):=by
  unfold fW;by_cases h0 : aA t
  · rw [if_neg (fun h=>h h0)];by_cases h1 : bx t leaf
    · rw [if_neg (fun h=>h h1)];by_cases h2 : dF (bx t) 0 (aY t) = 1
      · rw [if_pos h2]; exact .inl ⟨rfl,by decide⟩
      · rw [if_neg h2];obtain ⟨l,rfl⟩:=Int.eq_ofNat_of_zero_le h1.1;rw [Int.toNat_natCast];exact .inr ⟨rR h0 ((bW rfl _).1 h1).1,rfl⟩
    · rw [if_pos h1]; exact .inl ⟨rfl,by decide⟩
  · rw [if_pos h0]; exact .inl ⟨rfl,by decide⟩
def xc9 (t T : List aa) (f : Int) (k : Nat) : Prop:=cV T∧(f = 0→aA T∨(T = t∧k = 3))
theorem Cz : cV []:=⟨by simp,fun n hn=>by cases hn⟩
structure gy where
  group : List UInt8
  b8 : Int
  tree : List aa
  KK : List UInt8
  inter : List UInt8
  deriving DecidableEq
def gy.bp : gy:=⟨[],0,[],[],[]⟩
def gy.cells (s : gy) : List AV:=[ak s.group .any,.v (.int .i64 s.b8),ax s.tree,ak s.KK .any,ak s.inter .any]
def gy.right (s : gy) : Prop:=(1≤s.group.length∧s.group.length≤16)∧0≤s.b8∧s.b8≤1048576∧aA s.tree∧s.KK.length = 32∧s.inter.length = 32
instance (s : gy) : Decidable s.right:=by unfold gy.right; infer_instance
def gy.wf (s : gy) : Prop:=cV s.tree
def gy.text (s : gy) : List UInt8:=qG 1 s.group ++ (be 8 s.b8.toNat ++ (MZ s.tree ++ (qG 1 s.KK ++ (qG 1 s.inter ++ []))))
theorem MI : gy.bp.wf:=Cz
abbrev Qr : Ty:=.slice 5 (.struct (.cons Ho (.cons EW (.cons (.int .u64) (.cons EW (.cons (.slice 1 Ho) .nil))))))
theorem cP.state {iu : List AV} (h : cP (.struct (.cons EW (.cons Ho (.cons Qr (.cons EW (.cons EW .nil)))))) iu) : ∃ s : gy,iu = s.cells∧∀ n ∈ s.tree,n.key < 2 ^ 64:=by
  obtain ⟨x1,y1,rfl,t1,h⟩:=b7 (gH h);obtain ⟨x2,y2,rfl,t2,h⟩:=b7 h;obtain ⟨x3,y3,rfl,t3,h⟩:=b7 h;obtain ⟨x4,y4,rfl,t4,h⟩:=b7 h;obtain ⟨x5,y5,rfl,t5,h⟩:=b7 h;obtain rfl:=pq h;obtain ⟨l1,rfl,_⟩:=t1.bytes;obtain ⟨n2,rfl,_⟩:=iY t2;obtain ⟨l3,rfl,h3⟩:=cP.tree t3;obtain ⟨l4,rfl,_⟩:=t4.bytes;obtain ⟨l5,rfl,_⟩:=t5.bytes;exact ⟨⟨l1,n2,l3,l4,l5⟩,rfl,h3⟩
end Go.AM
namespace Go.Proofs.YtcjifoccjlpapaaGreatDoor
open Go Go.AM Go.Proofs Tryz
variable {Γ : Nat→List AV}
theorem rm (l : List UInt8) (s : AS) : ah prog Γ 44 [ak l .any] s (fun r s'=>r = .v (.bool (decide (1≤l.length∧l.length≤16)))∧s' = s):=by
 refine ab func44 rfl ntmps44 results44 (by simp) ?_;unfold ak;refine jA ?_;rcases OE (decide ((1 : Int)≤(l.length : Int))) (decide ((l.length : Int)≤16)) with hd | hd | hd;all_goals
  refine jB @hd ?_;refine jI ?_;refine jW ⟨?_,rfl⟩;simp only [decide_eq_true_eq,decide_eq_false_iff_not] at hd;congr 2;first
   | exact (decide_eq_true (by omega)).symm
   | exact (decide_eq_false (by omega)).symm
theorem qV (hG : Γ 3 = eW.map nj) (S : gy) (ht : S.wf) (s : AS) : ah prog Γ 15 [.agg S.cells] s (fun r s'=>r = .v (.bool (decide S.right))∧s' = s):=by
 refine ab func15 rfl ntmps15 results15 (by simp) ?_;have h1:=fun s=>rm (Γ:=Γ) S.group s;have h2:=fun s=>cW (Γ:=Γ) hG S.tree ht s;obtain ⟨Z,hZ⟩ : ∃ Z : Bool,Z = decide S.right:=⟨_,rfl⟩;rw [← hZ];have hS : Z = true↔(1≤S.group.length∧S.group.length≤16)∧0≤S.b8∧S.b8≤1048576∧aA S.tree∧S.KK.length = 32∧S.inter.length = 32:=(by rw [hZ,decide_eq_true_iff]; exact Iff.rfl);clear hZ;obtain ⟨g,e,t,c,i⟩:=S;unfold gy.cells;simp only at *
 obtain ⟨A,hA⟩ : ∃ A : Bool,A = decide (1≤g.length∧g.length≤16):=⟨_,rfl⟩;rw [← hA] at h1;unfold ax ak at *
 generalize au aa.cells t = X at *
 refine az 1 (by decide) ?_;intro K hK;refine jM ?_;intro o ho;refine hK _ _ o _ rfl ho ?_;clear hK K ho;refine jQ fun K hK=>?_;refine ae (h1 _) ?_;rintro r s1 ⟨rfl,rfl⟩;rcases N5 A (decide (0≤e)) (decide (e≤1048576)) with hd | hd | hd | hd;case inr.inr.inr =>
  rcases N5 (decide (aA t)) ((c.length : Int) == 32) ((i.length : Int) == 32) with he | he | he | he;all_goals
   refine jN @hd ?_;refine ae (h2 _) ?_;rintro r s2 ⟨rfl,rfl⟩;refine jV (Ai @hd @he) hK ?_;clear hK K;refine jI ?_;refine jW ⟨?_,rfl⟩;simp only [hA,decide_eq_true_eq,decide_eq_false_iff_not,beq_iff_eq,beq_eq_false_iff_ne,ne_eq] at hd he;have hQ : Z = true↔aA t∧c.length = 32∧i.length = 32:=by
    rw [hS];exact ⟨fun h=>h.2.2.2,fun h=>⟨hd.1,hd.2.1,hd.2.2,h⟩⟩
   congr 2;first
    | exact (hQ.2 ⟨he.1,by omega,by omega⟩).symm
    | exact (Bool.eq_false_iff.2 fun h=>by
      have:=hQ.1 h;first
       | exact he this.1
       | omega).symm
 all_goals
  refine jV @hd hK ?_;clear hK K;refine jI ?_;refine jW ⟨?_,rfl⟩;simp only [hA,decide_eq_true_eq,decide_eq_false_iff_not] at hd;congr 2;exact (Bool.eq_false_iff.2 fun h=>by
   obtain ⟨q1,q2,q3,-⟩:=hS.1 h;first
    | exact hd q1
    | exact hd.2 q2
    | exact hd.2.2 q3).symm
theorem uP (S : gy) (ht : S.wf) (s : AS) : ah prog Γ 28 [.agg S.cells] s (fun r s'=>r = .v (.bool (decide S.right))∧s' = s):=by
 refine ab func28 rfl ntmps28 results28 (by simp) ?_;have h2:=fun s=>cK (Γ:=Γ) S.tree ht s;obtain ⟨Z,hZ⟩ : ∃ Z : Bool,Z = decide S.right:=⟨_,rfl⟩;rw [← hZ];have hS : Z = true↔(1≤S.group.length∧S.group.length≤16)∧0≤S.b8∧S.b8≤1048576∧aA S.tree∧S.KK.length = 32∧S.inter.length = 32:=(by rw [hZ,decide_eq_true_iff]; exact Iff.rfl);clear hZ;obtain ⟨g,e,t,c,i⟩:=S;unfold gy.cells;simp only at *
 unfold ax ak at *
 generalize au aa.cells t = X at *
 refine az 1 (by decide) ?_;intro K hK;refine jM ?_;intro o ho;refine hK _ _ o _ rfl ho ?_;clear hK K ho;rcases ff4 (decide ((1 : Int)≤(g.length : Int))) (decide ((g.length : Int)≤16)) (decide (0≤e)) (decide (e≤1048576)) with hd | hd | hd | hd | hd;case inr.inr.inr.inr =>
  rcases N5 (decide (aA t)) ((c.length : Int) == 32) ((i.length : Int) == 32) with he | he | he | he;all_goals
   refine jS @hd fun K hK=>?_;refine ae (h2 _) ?_;rintro r s2 ⟨rfl,rfl⟩;refine jV (Ai @hd @he) hK ?_;clear hK K;refine jI ?_;refine jW ⟨?_,rfl⟩;simp only [decide_eq_true_eq,decide_eq_false_iff_not,beq_iff_eq,beq_eq_false_iff_ne,ne_eq] at hd he;have hQ : Z = true↔aA t∧c.length = 32∧i.length = 32:=by
    rw [hS];exact ⟨fun h=>h.2.2.2,fun h=>⟨by omega,hd.2.2.1,hd.2.2.2,h⟩⟩
   congr 2;first
    | exact (hQ.2 ⟨he.1,by omega,by omega⟩).symm
    | exact (Bool.eq_false_iff.2 fun h=>by
      have:=hQ.1 h;first
       | exact he this.1
       | omega).symm
 all_goals
  refine jB @hd ?_;refine jI ?_;refine jW ⟨?_,rfl⟩;simp only [decide_eq_true_eq,decide_eq_false_iff_not] at hd;congr 2;exact (Bool.eq_false_iff.2 fun h=>by
   obtain ⟨q1,q2,q3,-⟩:=hS.1 h;omega).symm
theorem wD (S T : gy) (ht : S.wf) (s : AS) : ah prog Γ 14 [.agg S.cells,.agg T.cells] s (fun r s'=>r = .v (.bool (decide (S = T)))∧s' = s):=by
 refine ab func14 rfl ntmps14 results14 (by simp) ?_;have h2:=fun s=>vj (Γ:=Γ) S.tree T.tree ht s;obtain ⟨Z,hZ⟩ : ∃ Z : Bool,Z = decide (S = T):=⟨_,rfl⟩;rw [← hZ];obtain ⟨g,e,t,c,i⟩:=S;obtain ⟨g',e',t',c',i'⟩:=T;have hS : Z = true↔g = g'∧e = e'∧t = t'∧c = c'∧i = i':=(by rw [hZ,decide_eq_true_iff,gy.mk.injEq]);clear hZ;unfold gy.cells;simp only at *
 unfold ax ak at *
 generalize au aa.cells t = X at *
 generalize au aa.cells t' = X' at *
 refine bY 2 3 (by decide) (by decide) (by decide) ?_;intro K hK;refine jM ?_;intro o1 h1 o2 h3;refine hK _ _ o1 o2 _ _ rfl rfl h1 (by rw [AS.cQ]; exact h3) ?_;clear hK K h1 h3;rcases OE (g == g') (e == e') with hd | hd | hd;case inr.inr =>
  rcases N5 (decide (t = t')) (c == c') (i == i') with he | he | he | he;all_goals
   refine jS @hd fun K hK=>?_;refine ae (h2 _) ?_;rintro r s2 ⟨rfl,rfl⟩;refine jV (Ai @hd @he) hK ?_;clear hK K;refine jI ?_;refine jW ⟨?_,rfl⟩;simp only [decide_eq_true_eq,decide_eq_false_iff_not,beq_iff_eq,beq_eq_false_iff_ne,ne_eq] at hd he;have hQ : Z = true↔t = t'∧c = c'∧i = i':=by
    rw [hS];exact ⟨fun h=>h.2.2,fun h=>⟨hd.1,hd.2,h⟩⟩
   congr 2;first
    | exact (hQ.2 he).symm
    | exact (Bool.eq_false_iff.2 fun h=>by
      have:=hQ.1 h;first
       | exact he this.1
       | exact he.2 this.2.1
       | exact he.2.2 this.2.2).symm
 all_goals
  refine jB @hd ?_;refine jI ?_;refine jW ⟨?_,rfl⟩;simp only [beq_iff_eq,beq_eq_false_iff_ne,ne_eq] at hd;congr 2;exact (Bool.eq_false_iff.2 fun h=>by
   have:=hS.1 h;first
    | exact hd this.1
    | exact hd.2 this.2.1).symm
theorem z7 (a b : List UInt8) : ji [a,b] = [ak a .any,ak b .any]:=rfl
theorem zZ (n9 : Γ 0 = gR Sha.H0) (kV : Γ 1 = Sha.K.map wV) (ls : List (List UInt8)) (sp : Sp) (hn : ls.length≤2 ^ 40) (hl : ls.flatten.length≤2 ^ 40) (s : AS) :
  ah prog Γ 38 [.sl 1 ls.length (ji ls) sp] s (fun r s'=>r = ak (Sha.sum ls.flatten) .any∧s' = s):=by
 refine ah.settle (rP n9 kV ls sp hn hl s) ?_;intro r s1 ho;exact ⟨s,_,(bf.aL ho.aL).trans (bf.le _ ho.1),rfl,rfl⟩
def cr : List UInt8:=List.replicate 32 0
theorem xI : List.replicate 32 (AV.v (.int .u8 0)) = cr.map aw:=by unfold cr; rw [List.map_replicate]; rfl
theorem Gt : cr.length = 32:=by decide
def tL (g n : List UInt8) (k : Nat) : gy × Int :=
 if (bq n k).right∧1≤g.length∧g.length≤16 then (⟨g,0,[bq n k],cr,Sha.sum (cr ++ cr)⟩,0) else (gy.bp,2)
theorem dN : (AV.agg [.v (.slice none 0 0),.v (.int .i64 0),.v (.slice none 0 0),.v (.slice none 0 0),.v (.slice none 0 0)]).aL (.agg gy.bp.cells) :=
 AV.fR (.cons AV.aP (.cons (AV.aL.refl _) (.cons AV.aP (.cons AV.aP (.cons AV.aP .nil)))))
theorem AW (n9 : Γ 0 = gR Sha.H0) (kV : Γ 1 = Sha.K.map wV) (g n : List UInt8) (k : Nat) (hg : g.length≤2 ^ 40) (hn : n.length≤2 ^ 40) (s : AS) :
  ah prog Γ 23 [ak g .any,ak n .any,.v (.int .u64 k)] s (fun r s'=>r = .dZ [.agg (tL g n k).1.cells,.v (.int .i64 (tL g n k).2)]∧s' = s):=by
 have h1:=fun s=>Gm (Γ:=Γ) n k (by omega) s;have h2:=fun s=>rm (Γ:=Γ) g s;have h3:=fun s=>eF (Γ:=Γ) g s (by omega);have h4:=fun s=>zZ (Γ:=Γ) n9 kV [cr,cr] .new (by decide) (by decide +kernel) s;rw [show [cr,cr].flatten = cr ++ cr from by simp,z7] at h4;unfold tL;have hT : ax [bq n k] = .sl 5 1 (au aa.cells [bq n k]) .any:=rfl;rw [hT] at h1;have fM : (⟨g,0,[bq n k],cr,Sha.sum (cr ++ cr)⟩ : gy).cells = [ak g .any,.v (.int .i64 0),.sl 5 1 (au aa.cells [bq n k]) .any,.sl 1 32 (cr.map aw) .any,ak (Sha.sum (cr ++ cr)) .any]:=rfl;have hzz : ak cr .any = .sl 1 32 (cr.map aw) .any:=rfl;rw [hzz] at h4;have KZ:=xI;have yN : (cr.map aw).length = 32:=(by rw [List.length_map,Gt]);generalize Sha.sum (cr ++ cr) = D at *
 generalize cr = Z at *
 generalize au aa.cells [bq n k] = X at *
 refine ab func23 rfl ntmps23 results23 (by simp) ?_;unfold ak at *
 refine jQ fun K hK=>?_;intro o ho;refine hK _ _ ?_;clear hK K;by_cases hr : (bq n k).right
 ·rw [if_pos hr] at h1;by_cases ha : 1≤g.length∧g.length≤16
  ·rw [if_pos ⟨hr,ha⟩,fM];refine jK (h1 _) ?_;rintro s1 rfl;refine wK fun K hK=>?_;refine jQ fun K hK=>?_;refine ae (h2 _) ?_;rintro r s2 ⟨rfl,rfl⟩;refine jV (Ai (decide_eq_true ha) (show ((0 : Int) != 0) = false from rfl)) hK ?_;clear hK K;refine jF ?_;refine ad ?_;refine hK _ _ ?_;clear hK K;refine Fk 10 (by decide) ?_;intro K hK;refine jN @KZ ?_;refine ⟨by decide,by decide,fun o2 BX=>?_⟩;refine hK _ _ _ _ (bf.made (sp:=.any) BX yN) ?_;clear hK K;refine wS fun K hK=>?_;simp only [↓DN,Qa,Qb,Qc,Qd,Qe,Qf,Qg,Qh,reduceCtorEq,↓reduceIte,Na,Nb,Nc,Nk,Nf,Ng,Nh,Za,Zb,Zc,TT,List.replicate_succ,List.replicate_zero];refine ae (h3 _) ?_;rintro r s3 ⟨rfl,rfl⟩;refine jM ?_;refine ae (h4 _) ?_;rintro r s4 ⟨rfl,rfl⟩;refine jV @AS.aj hK ?_;clear hK K;refine bo ?_;refine iX (o:=o) (off:=0) rfl (AS.aj _ _ _) (by rw [T.Bn]; decide) (by simp only [↓DN,Qa,Qb,Qc,Qd,Qe,Qf,Qg,Qh,reduceCtorEq,↓reduceIte,Na,Nb,Nc,Nk,Nf,Ng,Nh,Za,Zb,Zc,TT]; rfl) ?_;exact ⟨_,s,AV.aL.refl _,AS.bg (AS.le.refl s) ho _,rfl,rfl⟩
  ·rw [if_neg (fun h=>ha h.2)];refine jK (h1 _) ?_;rintro s1 rfl;refine wK fun K hK=>?_;refine jQ fun K hK=>?_;refine ae (h2 _) ?_;rintro r s2 ⟨rfl,rfl⟩;refine jV (decide_eq_false ha) hK ?_;clear hK K;refine jE ?_;refine jB @AS.aj ?_;refine bo ?_;refine iX (o:=o) (off:=0) rfl (AS.aj _ _ _) (by rw [T.Bn]; decide) (by simp only [↓DN,Qa,Qb,Qc,Qd,Qe,Qf,Qg,Qh,reduceCtorEq,↓reduceIte,Na,Nb,Nc,Nk,Nf,Ng,Nh,Za,Zb,Zc,TT]; rfl) ?_;exact ⟨_,s,AV.gb dN (AV.aL.refl _),AS.bg (AS.le.refl s) ho _,rfl,rfl⟩
 ·rw [if_neg hr] at h1;rw [if_neg (fun h=>hr h.1)];unfold bL at h1;refine jK (h1 _) ?_;rintro s1 rfl;by_cases ha : 1≤g.length∧g.length≤16
  ·refine wK fun K hK=>?_;refine jQ fun K hK=>?_;refine ae (h2 _) ?_;rintro r s2 ⟨rfl,rfl⟩;refine jV (Ai (decide_eq_true ha) (show ((2 : Int) != 0) = true from rfl)) hK ?_;clear hK K;refine jE ?_;refine jB @AS.aj ?_;refine bo ?_;refine iX (o:=o) (off:=0) rfl (AS.aj _ _ _) (by rw [T.Bn]; decide) (by simp only [↓DN,Qa,Qb,Qc,Qd,Qe,Qf,Qg,Qh,reduceCtorEq,↓reduceIte,Na,Nb,Nc,Nk,Nf,Ng,Nh,Za,Zb,Zc,TT]; rfl) ?_;exact ⟨_,s,AV.gb dN (AV.aL.refl _),AS.bg (AS.le.refl s) ho _,rfl,rfl⟩
  ·refine wK fun K hK=>?_;refine jQ fun K hK=>?_;refine ae (h2 _) ?_;rintro r s2 ⟨rfl,rfl⟩;refine jV (decide_eq_false ha) hK ?_;clear hK K;refine jE ?_;refine jB @AS.aj ?_;refine bo ?_;refine iX (o:=o) (off:=0) rfl (AS.aj _ _ _) (by rw [T.Bn]; decide) (by simp only [↓DN,Qa,Qb,Qc,Qd,Qe,Qf,Qg,Qh,reduceCtorEq,↓reduceIte,Na,Nb,Nc,Nk,Nf,Ng,Nh,Za,Zb,Zc,TT]; rfl) ?_;exact ⟨_,s,AV.gb dN (AV.aL.refl _),AS.bg (AS.le.refl s) ho _,rfl,rfl⟩
theorem AZ (t : List aa) (ht : t.length≤2 ^ 30) (hw : ∀ n ∈ t,qP n) (s : AS) : ah prog Γ 27 [ax t] s (fun r s'=>r = ax t∧s' = s):=by
  refine ah.settle (ku t ht hw s) ?_;rintro r s1 ⟨TS,hT,hO⟩;obtain ⟨s2,k1,k2⟩:=hO.settle (Γ:=Γ);rw [hT] at k1;exact ⟨s,_,k1.trans (bf.le _ k2),rfl,rfl⟩
theorem Gu (n : Nat) : (decide (2≤(n : Int)) && decide ((n : Int)≤2305843009213693949)) = decide (uK n):=by
 rw [← Bool.decide_and];apply decide_eq_decide.2;unfold uK;omega
theorem ib (n : Nat) (s : AS) : ah prog Γ 87 [.v (.int .u64 n)] s (fun r s'=>r = .v (.bool (decide (uK n)))∧s' = s):=by
 have:=dd (Γ:=Γ) n s;rwa [Gu] at this
theorem dW (n : Nat) (s : AS) : ah prog Γ 73 [.v (.int .u64 n)] s (fun r s'=>r = .v (.bool (decide (uK n)))∧s' = s):=by
 have:=fp (Γ:=Γ) n s;rwa [Gu] at this
theorem xJ (l : List UInt8) (s : AS) : ah prog Γ 64 [ak l .any] s (fun r s'=>r = .v (.bool (decide (1≤l.length∧l.length≤16)))∧s' = s):=by
 refine ab func64 rfl ntmps64 results64 (by simp) ?_;refine jA ?_;rcases OE (decide ((1 : Int)≤(l.length : Int))) (decide ((l.length : Int)≤16)) with hd | hd | hd;all_goals
  refine jB @hd ?_;refine jI ?_;refine jW ⟨?_,rfl⟩;simp only [decide_eq_true_eq,decide_eq_false_iff_not] at hd;congr 2;first
   | exact (decide_eq_true (by omega)).symm
   | exact (decide_eq_false (by omega)).symm
theorem tM (n : Int) (s : AS) : ah prog Γ 65 [.v (.int .i64 n)] s (fun r s'=>r = .v (.bool (decide (0≤n∧n < 32)))∧s' = s):=by
 refine ab func65 rfl ntmps65 results65 (by simp) ?_;refine jA ?_;rcases OE (decide (0≤n)) (decide (n < 32)) with hd | hd | hd;all_goals
  refine jB @hd ?_;refine jI ?_;refine jW ⟨?_,rfl⟩;simp only [decide_eq_true_eq,decide_eq_false_iff_not] at hd;congr 2;first
   | exact (decide_eq_true (by omega)).symm
   | exact (decide_eq_false (by omega)).symm
theorem gB {a b : Int} (h : a = b) : (a == b) = true:=by simpa using h
theorem e8 {a b : Int} (h : a≠b) : (a == b) = false:=by simpa using h
theorem Dq {a : Nat} (h : a = 0) : ((a : Int) == 0) = true:=by subst h; rfl
theorem uI {a : Nat} (h : a≠0) : ((a : Int) == 0) = false:=by simpa using h
theorem Mf {a k : Nat} (h : a = k) : ((a : Int) == (k : Int)) = true:=by subst h; simp
theorem Ei (p : aF) (s : AS) : ah prog Γ 63 [.agg p.cells] s (fun r s'=>r = .v (.bool (decide p.right))∧s' = s):=by
 refine ab func63 rfl ntmps63 results63 (by simp) ?_;obtain ⟨k,l,nm,key,zH⟩:=p;unfold aF.cells;refine az 1 (by simp [bP]) ?_;intro K hK;refine jM ?_;intro o ho;refine hK _ _ o _ rfl ho ?_;clear hK K ho;refine wK fun K hK=>?_;refine jA ?_;refine ag ?_;by_cases oB : k = 1
 ·refine jB (gB oB) ?_;refine jE ?_;by_cases h1 : l = 0
  ·refine jS (gB h1) fun K hK=>?_;refine ae (xJ nm _) ?_;rintro r s1 ⟨rfl,rfl⟩;by_cases h2 : 1≤nm.length∧nm.length≤16
   ·refine jN (decide_eq_true h2) ?_;refine ae (ib key _) ?_;rintro r s2 ⟨rfl,rfl⟩;by_cases h3 : uK key
    ·refine jN (decide_eq_true h3) ?_;refine ae (ib zH _) ?_;rintro r s3 ⟨rfl,rfl⟩;refine jR hK ?_;clear hK K;refine jI ?_;exact jW ⟨by simp [aF.right,oB,h1,h2,h3],rfl⟩
    ·refine jV (decide_eq_false h3) hK ?_;clear hK K;refine jI ?_;exact jW ⟨by simp [aF.right,oB,h3],rfl⟩
   ·refine jV (decide_eq_false h2) hK ?_;clear hK K;refine jI ?_;exact jW ⟨by simp [aF.right,oB]; omega,rfl⟩
  ·refine jB (e8 h1) ?_;refine jI ?_;exact jW ⟨by simp [aF.right,oB,h1],rfl⟩
 ·refine jB (e8 oB) ?_;refine jF ?_;by_cases m9 : k = 2
  ·refine jB (gB m9) ?_;refine jE ?_;refine jQ fun K hK=>?_;refine ae (tM l _) ?_;rintro r s1 ⟨rfl,rfl⟩;by_cases h1 : 0≤l∧l < 32
   ·by_cases h2 : nm.length = 0
    ·refine jN (Ai (decide_eq_true h1) (Dq h2)) ?_;refine ae (ib key _) ?_;rintro r s2 ⟨rfl,rfl⟩;by_cases h3 : uK key
     ·by_cases h4 : zH = 0
      ·refine jV (Ai (decide_eq_true h3) (Dq h4)) hK ?_;clear hK K;refine jI ?_;exact jW ⟨by simp [aF.right,m9,h1,h3,h4,List.eq_nil_of_length_eq_zero h2],rfl⟩
      ·refine jV (Ai (decide_eq_true h3) (uI h4)) hK ?_;clear hK K;refine jI ?_;exact jW ⟨by simp [aF.right,m9,h4],rfl⟩
     ·refine jV (decide_eq_false h3) hK ?_;clear hK K;refine jI ?_;exact jW ⟨by simp [aF.right,m9,h3],rfl⟩
    ·refine jV (Ai (decide_eq_true h1) (uI h2)) hK ?_;clear hK K;refine jI ?_;exact jW ⟨by simp [aF.right,m9]; intro _ _ h; exact absurd (by simp [h]) h2,rfl⟩
   ·refine jV (decide_eq_false h1) hK ?_;clear hK K;refine jI ?_;exact jW ⟨by simp [aF.right,m9]; omega,rfl⟩
  ·refine jB (e8 m9) ?_;refine jF ?_;by_cases GK : k = 3
   ·refine jB (gB GK) ?_;refine jE ?_;refine jQ fun K hK=>?_;refine ae (tM l _) ?_;rintro r s1 ⟨rfl,rfl⟩;by_cases h1 : 0≤l∧l < 32
    ·rcases N5 ((nm.length : Int) == 0) ((key : Int) == 0) ((zH : Int) == 0) with hd | hd | hd | hd;all_goals
      refine jV (Ai (decide_eq_true h1) @hd) hK ?_;clear hK K;refine jI ?_;refine jW ⟨?_,rfl⟩;simp only [beq_iff_eq,beq_eq_false_iff_ne,ne_eq] at hd;congr 2;symm;first
       | exact decide_eq_true (by unfold aF.right; simp only; omega)
       | exact decide_eq_false (by unfold aF.right; simp only; omega)
    ·refine jV (decide_eq_false h1) hK ?_;clear hK K;refine jI ?_;exact jW ⟨by simp [aF.right,GK]; omega,rfl⟩
   ·refine jB (e8 GK) ?_;refine jF ?_;refine ad ?_;simp only [aq,av,if_true,if_false];refine hK _ _ ?_;clear hK K;refine jA ?_;refine jI ?_;exact jW ⟨by simp [aF.right,oB,m9,GK],rfl⟩
theorem O5 {a b : Int} (h : a≠b) : (a != b) = true:=by simpa using h
theorem eqI {a b : Int} (h : a = b) : (a != b) = false:=by simpa using h
theorem SF {a : Nat} (h : a≠0) : ((a : Int) != 0) = true:=by simpa using h
theorem X8 {a : Nat} (h : a = 0) : ((a : Int) != 0) = false:=by subst h; rfl
theorem xZ (p : aF) (s : AS) : ah prog Γ 71 [.agg p.cells] s (fun r s'=>r = .v (.bool (decide p.right))∧s' = s):=by
 refine ab func71 rfl ntmps71 results71 (by simp) ?_;obtain ⟨k,l,nm,key,zH⟩:=p;unfold aF.cells;refine az 1 (by simp [bP]) ?_;intro K hK;refine jM ?_;intro o ho;refine hK _ _ o _ rfl ho ?_;clear hK K ho;refine wK fun K hK=>?_;by_cases oB : k = 1
 ·refine jB (gB oB) ?_;refine jE ?_;rcases N5 (l == 0) (decide ((1 : Int)≤(nm.length : Int))) (decide ((nm.length : Int)≤16)) with hd | hd | hd | hd;case inr.inr.inr =>
   refine jS @hd fun K hK=>?_;refine ae (dW key _) ?_;rintro r s2 ⟨rfl,rfl⟩;simp only [beq_iff_eq,decide_eq_true_eq] at hd;obtain ⟨h1,h2,T8⟩:=hd;by_cases h3 : uK key
   ·refine jN (decide_eq_true h3) ?_;refine ae (dW zH _) ?_;rintro r s3 ⟨rfl,rfl⟩;refine jR hK ?_;clear hK K;refine jI ?_;refine jW ⟨?_,rfl⟩;have q1 : 1≤nm.length:=(by omega);have q2 : nm.length≤16:=(by omega);simp [aF.right,oB,h1,h3,q1,q2]
   ·refine jV (decide_eq_false h3) hK ?_;clear hK K;refine jI ?_;exact jW ⟨by simp [aF.right,oB,h3],rfl⟩
  all_goals
   refine jB @hd ?_;refine jI ?_;refine jW ⟨?_,rfl⟩;simp only [beq_iff_eq,beq_eq_false_iff_ne,ne_eq,decide_eq_true_eq,decide_eq_false_iff_not] at hd;congr 2;symm;exact decide_eq_false (by unfold aF.right; simp only; omega)
 ·refine jB (e8 oB) ?_;refine jF ?_;refine ad ?_;refine hK _ _ ?_;clear hK K;refine wK fun K hK=>?_;by_cases TR : k = 2∨k = 3
  ·have yB : ((k != 2) = false∧(k == 2) = true∧(k == 3) = false)∨((k != 2) = true∧(k != 3) = false∧(k == 2) = false∧(k == 3) = true):=by
    rcases TR with rfl | rfl
    ·exact Or.inl ⟨rfl,rfl,rfl⟩
    ·exact Or.inr ⟨rfl,rfl,rfl,rfl⟩
   rcases tt4 (decide (l < 0)) (decide (31 < l)) (decide (0 < (nm.length : Int))) ((zH : Int) != 0) with hd | hd | hd | hd | hd;case inr.inr.inr.inr =>
    have Ht:=hd;simp only [decide_eq_false_iff_not,bne_eq_false_iff_eq] at Ht;obtain ⟨h1,h2,h3,h4⟩:=Ht;have h4 : zH = 0:=(by omega);have h3 : nm = []:=List.eq_nil_of_length_eq_zero (by omega);have q1 : 0≤l:=(by omega);have q2 : l < 32:=(by omega);rcases yB with yB | yB
    ·refine jB (Ai @hd @yB) ?_;refine jF ?_;refine ad ?_;refine hK _ _ ?_;clear hK K;refine jS @yB fun K hK=>?_;refine ae (dW key _) ?_;rintro r s2 ⟨rfl,rfl⟩;have m9 : k = 2:=(by simpa using yB.2.1);by_cases h5 : uK key
     ·refine jV (decide_eq_true h5) hK ?_;clear hK K;refine jI ?_;exact jW ⟨by simp [aF.right,m9,h5,h3,h4,q1,q2],rfl⟩
     ·refine jV (Ai (decide_eq_false h5) @yB) hK ?_;clear hK K;refine jI ?_;exact jW ⟨by simp [aF.right,m9,h5],rfl⟩
    ·refine jB (Ai @hd @yB) ?_;refine jF ?_;refine ad ?_;refine hK _ _ ?_;clear hK K;have GK : k = 3:=(by simpa using yB.2.2.2);by_cases h5 : key = 0
     ·refine jB (Ai @yB (Dq h5)) ?_;refine jI ?_;exact jW ⟨by simp [aF.right,GK,h5,h3,h4,q1,q2],rfl⟩
     ·refine jB (Ai @yB (uI h5)) ?_;refine jI ?_;exact jW ⟨by simp [aF.right,GK,h5],rfl⟩
   all_goals
    rcases yB with yB | yB;all_goals
     refine jB (Ai @hd @yB) ?_;refine jE ?_;refine jA ?_;refine jI ?_;refine jW ⟨?_,rfl⟩;simp only [beq_iff_eq,beq_eq_false_iff_ne,bne_eq_false_iff_eq,bne_iff_ne,ne_eq,decide_eq_true_eq,decide_eq_false_iff_not] at hd yB;congr 2;symm;exact decide_eq_false (by unfold aF.right; simp only; omega)
  ·have q2 : k≠2:=fun h=>TR (Or.inl h);have q3 : k≠3:=fun h=>TR (Or.inr h);refine jB (Ai (O5 q2) (O5 q3)) ?_;refine jE ?_;refine jA ?_;refine jI ?_;exact jW ⟨by simp [aF.right,oB,q2,q3],rfl⟩
theorem oH {α : Type} {Q : α→Prop} {l : List α} {i : Nat} (h : i < l.length) (bT : ∀ x ∈ l.take i,Q x) (hx : Q l[i]) : ∀ x ∈ l.take (i + 1),Q x:=by
 rw [List.take_succ_eq_append_getElem h];intro p hp;rcases List.mem_append.1 hp with hp | hp
 ·exact bT p hp
 ·simp only [List.mem_singleton] at hp;subst hp;exact hx
theorem lR {α : Type} {Q : α→Prop} {l : List α} {i : Nat} (h : ¬ i < l.length) (bT : ∀ x ∈ l.take i,Q x) : ∀ x ∈ l,Q x:=by
 rwa [List.take_of_length_le (by omega)] at bT
theorem aQ (i : Nat) (h : i < 9223372036854775807) : jn .i64 (i : Int) 1 = ((i + 1 : Nat) : Int):=by
 rw [gF (by omega)];rfl
theorem n48 {n : Nat} (h : n = 48) : ((n : Int) != 48) = false:=by subst h; rfl
theorem X9 {n : Nat} (h : n≠48) : ((n : Int) != 48) = true:=by simp only [bne_iff_ne,ne_eq]; omega
theorem Iw (p : bk) (hl : p.oO.length≤9223372036854775807) (s : AS) : ah prog Γ 138 [.agg p.cells] s (fun r s'=>r = .v (.bool (decide p.right))∧s' = s):=by
 refine ab func138 rfl ntmps138 results138 (by simp) ?_;obtain ⟨key,ss⟩:=p;simp only at hl;unfold bk.cells;have fU:=fun i (h : i < ss.length)=>dB (c:=bQ.cells) (k:=2) (fun _=>rfl) h;generalize hX : au bQ.cells ss = X at *
 refine az 1 (by simp [bP]) ?_;intro K hK;refine jM ?_;intro o ho;refine hK _ _ o _ rfl ho ?_;clear hK K ho;refine wK fun K hK=>?_;refine jA ?_;refine ag ?_;refine aH (fun E s1=>∃ i : Nat,i≤ss.length∧E 8 = .v (.int .i64 i)∧E 7 = .v (.int .i64 ss.length)∧E 6 = .sl 2 ss.length X .any∧E 1 = .cX [.v (.int .u64 key),.sl 2 ss.length X .any]∧(∀ p ∈ ss.take i,p.right)∧s1 = s)
  (fun E _=>match E 8 with | .v (.int _ i)=>ss.length - i.toNat | _=>0) ?_ ?_
 ·exact ⟨0,Nat.zero_le _,rfl,rfl,rfl,rfl,by simp,rfl⟩
 ·rintro E1 s1 ⟨i,hi,g8,g7,g6,g1,bT,rfl⟩ -
  by_cases aO : i < ss.length
  ·refine jB (Ai @g8 (Ai @g7 (Ai @af (decide_eq_true aO)))) ?_;refine wK fun K3 bB=>?_;refine jE ?_;refine ad ?_;refine bB _ _ ?_;clear bB K3;refine wK fun K3 bB=>?_;refine ag ?_;have bN:=fU i aO;have bK : (0 : Int)≤(i : Int):=(by omega);obtain ⟨y,hy⟩ : ∃ y,y = ss[i]:=⟨_,rfl⟩;rw [← hy] at bN;have zF : y ∈ ss:=(by rw [hy]; exact List.getElem_mem aO);have gQ : y.right→∀ x ∈ ss.take (i + 1),x.right:=fun h=>oH aO bT (by rw [← hy]; exact h);have dV : ¬ y.right→decide (bk.right ⟨key,ss⟩) = false:=fun h=>decide_eq_false fun hr=>h (hr.1 y zF);clear hy;obtain ⟨f,t⟩:=y;unfold bQ.cells at bN;refine az 4 (by simp [bP]) ?_;intro K2 aX;refine jN (Ai @g8 (Ai @g6 (Ai @af (Ai @aO (Ai @bK @bN))))) ?_;intro o ho;refine aX _ _ o _ rfl ho ?_;clear aX K2 ho;refine jQ fun K hK=>?_;refine ae (ib f _) ?_;rintro r s2 ⟨rfl,rfl⟩;by_cases h1 : uK f
   ·by_cases h2 : t.length = 48
    ·refine jV (Ai (decide_eq_true h1) (n48 h2)) hK ?_;clear hK K;refine jF ?_;refine ad ?_;simp only [aq,av,if_true,if_false];refine bB _ _ ?_;clear bB K3;refine jD (Ai @g8 (aQ i (by omega))) ?_;refine ⟨⟨i + 1,by omega,rfl,g7,g6,g1,gQ ⟨h1,h2⟩,rfl⟩,?_⟩;simp only [g8,aG,↓reduceIte];omega
    ·refine jV (Ai (decide_eq_true h1) (X9 h2)) hK ?_;clear hK K;refine jE ?_;refine jA ?_;refine jI ?_;exact jW ⟨by rw [dV fun h=>h2 h.2],rfl⟩
   ·refine jV (decide_eq_false h1) hK ?_;clear hK K;refine jE ?_;refine jA ?_;refine jI ?_;exact jW ⟨by rw [dV fun h=>h1 h.1],rfl⟩
  ·have nI:=lR aO bT;refine jB (Ai @g8 (Ai @g7 (Ai @af (decide_eq_false aO)))) ?_;refine wK fun K3 bB=>?_;refine jF ?_;refine aB ?_;simp only [av,aq,if_true];refine hK _ _ ?_;clear hK K bB K3;refine jS @g1 fun K hK=>?_;refine ae (ib key _) ?_;rintro r s2 ⟨rfl,rfl⟩;by_cases h1 : uK key
   ·refine jV (Ai @g1 (decide_eq_true h1)) hK ?_;clear hK K;refine jI ?_;refine jW ⟨?_,rfl⟩;congr 2;refine decide_eq_decide.2 ⟨fun h=>⟨nI,h1,by simp only; omega⟩,fun h=>by have:=h.2.2; simp only at this; omega⟩
   ·refine jV (Ai @g1 (decide_eq_false h1)) hK ?_;clear hK K;refine jI ?_;exact jW ⟨by rw [decide_eq_false fun h=>h1 h.2.1],rfl⟩
theorem Ej (c : aI) (hl : c.path.steps.length≤9223372036854775807) (hls : ∀ x ∈ c.path.steps,x.oO.length≤9223372036854775807) (s : AS) : ah prog Γ 66 [.agg c.cells] s (fun r s'=>r = .v (.bool (decide c.pA))∧s' = s):=by
 refine ab func66 rfl ntmps66 results66 (by simp) ?_;obtain ⟨g,e,sd,ps,hp,⟨pk,pp,dk⟩,cf,mb⟩:=c;simp only at hl hls;unfold aI.cells;have fU:=fun i (h : i < dk.length)=>dB (c:=bk.cells) (k:=2) (fun _=>rfl) h;generalize hX : au bk.cells dk = X at *
 generalize hZ : au aF.cells ps = Z at *
 refine az 1 (by simp [bP]) ?_;intro K hK;refine jM ?_;intro o ho;refine hK _ _ o _ rfl ho ?_;clear hK K ho;refine az 3 (by simp [bP]) ?_;intro K hK;refine jM ?_;intro o ho;refine hK _ _ o _ rfl ho ?_;clear hK K ho;refine wK fun K hK=>?_;cases hp with
 | false =>
  refine jA ?_;refine jE ?_;have mZ : decide (aI.pA ⟨g,e,sd,ps,false,⟨pk,pp,dk⟩,cf,mb⟩) = decide (pk = 0∧pp.length = 0∧dk.length = 0) :=
   decide_eq_decide.2 ⟨fun h=>h.2 rfl,fun h=>⟨fun q=>(by cases q),fun _=>h⟩⟩
  rw [mZ] at hK ⊢;rcases N5 ((pk : Int) == 0) ((pp.length : Int) == 0) ((dk.length : Int) == 0) with hd | hd | hd | hd;all_goals
   refine jB @hd ?_;refine jI ?_;refine jW ⟨?_,rfl⟩;simp only [beq_iff_eq,beq_eq_false_iff_ne,ne_eq] at hd;congr 2;symm;first
    | exact decide_eq_true (by omega)
    | exact decide_eq_false (by omega)
 | true =>
  have pF : decide (aI.pA ⟨g,e,sd,ps,true,⟨pk,pp,dk⟩,cf,mb⟩) = decide (ck.right ⟨pk,pp,dk⟩) :=
   decide_eq_decide.2 ⟨fun h=>h.1 rfl,fun h=>⟨fun _=>h,fun q=>(by cases q)⟩⟩
  rw [pF] at hK ⊢;clear pF;refine jA ?_;refine jF ?_;refine ad ?_;refine hK _ _ ?_;clear hK K;refine wK fun K hK=>?_;refine jA ?_;refine ag ?_;refine aH (fun E s1=>∃ i : Nat,i≤dk.length∧E 29 = .v (.int .i64 i)∧E 28 = .v (.int .i64 dk.length)∧E 27 = .sl 2 dk.length X .any∧E 3 = .cX [.v (.int .u64 pk),.sl 1 pp.length (pp.map aw) .any,.sl 2 dk.length X .any]∧(∀ p ∈ dk.take i,p.right)∧s1 = s)
   (fun E _=>match E 29 with | .v (.int _ i)=>dk.length - i.toNat | _=>0) ?_ ?_
  ·exact ⟨0,Nat.zero_le _,rfl,rfl,rfl,rfl,by simp,rfl⟩
  ·rintro E1 s1 ⟨i,hi,g8,g7,g6,g1,bT,rfl⟩ -
   by_cases aO : i < dk.length
   ·refine jB (Ai @g8 (Ai @g7 (Ai @af (decide_eq_true aO)))) ?_;refine wK fun K3 bB=>?_;refine jE ?_;refine ad ?_;refine bB _ _ ?_;clear bB K3;refine wK fun K3 bB=>?_;refine ag ?_;have bN:=fU i aO;have bK : (0 : Int)≤(i : Int):=(by omega);obtain ⟨y,hy⟩ : ∃ y,y = dk[i]:=⟨_,rfl⟩;rw [← hy] at bN;have zF : y ∈ dk:=(by rw [hy]; exact List.getElem_mem aO);have gQ : y.right→∀ x ∈ dk.take (i + 1),x.right:=fun h=>oH aO bT (by rw [← hy]; exact h);have dV : ¬ y.right→decide (ck.right ⟨pk,pp,dk⟩) = false:=fun h=>decide_eq_false fun hr=>h (hr.1 y zF);have il:=fun s=>Iw (Γ:=Γ) y (hls y zF) s;clear hy;obtain ⟨f,t⟩:=y;unfold bk.cells at bN il;generalize au bQ.cells t = T at *
    refine az 5 (by simp [bP]) ?_;intro K2 aX;refine jN (Ai @g8 (Ai @g6 (Ai @af (Ai @aO (Ai @bK @bN))))) ?_;intro o ho;refine aX _ _ o _ rfl ho ?_;clear aX K2 ho;refine jQ fun K hK=>?_;refine ae (il _) ?_;rintro r s2 ⟨rfl,rfl⟩;by_cases h1 : bk.right ⟨f,t⟩
    ·refine jV (decide_eq_true h1) hK ?_;clear hK K;refine jF ?_;refine ad ?_;simp only [aq,av,if_true,if_false];refine bB _ _ ?_;clear bB K3;refine jD (Ai @g8 (aQ i (by omega))) ?_;refine ⟨⟨i + 1,by omega,rfl,g7,g6,g1,gQ h1,rfl⟩,?_⟩;simp only [g8,aG,↓reduceIte];omega
    ·refine jV (decide_eq_false h1) hK ?_;clear hK K;refine jE ?_;refine jA ?_;refine jI ?_;exact jW ⟨by rw [dV h1],rfl⟩
   ·have nI:=lR aO bT;refine jB (Ai @g8 (Ai @g7 (Ai @af (decide_eq_false aO)))) ?_;refine wK fun K3 bB=>?_;refine jF ?_;refine aB ?_;simp only [av,aq,if_true];refine hK _ _ ?_;clear hK K bB K3;refine jS @g1 fun K hK=>?_;refine ae (ib pk _) ?_;rintro r s2 ⟨rfl,rfl⟩;by_cases h1 : uK pk
    ·rcases tt2 ((pp.length : Int) == 0) ((pp.length : Int) == 32) with hd | hd | hd;all_goals
      refine jV (Ai @g1 (Ai (decide_eq_true h1) @hd)) hK ?_;clear hK K;refine jI ?_;refine jW ⟨?_,rfl⟩;simp only [beq_iff_eq,beq_eq_false_iff_ne,ne_eq] at hd
     ·congr 2;exact decide_eq_decide.2 ⟨fun h=>⟨nI,h1,Or.inl (by simp only; omega),by simp only; omega⟩,fun h=>by have:=h.2.2.2; simp only at this; omega⟩
     ·congr 2;exact decide_eq_decide.2 ⟨fun h=>⟨nI,h1,Or.inr (by simp only; omega),by simp only; omega⟩,fun h=>by have:=h.2.2.2; simp only at this; omega⟩
     ·congr 2;symm;exact decide_eq_false fun h=>by have:=h.2.2.1; simp only at this; omega
    ·refine jV (Ai @g1 (decide_eq_false h1)) hK ?_;clear hK K;refine jI ?_;exact jW ⟨by rw [decide_eq_false fun h=>h1 h.2.1],rfl⟩
def aI.fits (c : aI) : Prop:=c.props.length≤9223372036854775807∧c.path.steps.length≤9223372036854775807∧∀ x ∈ c.path.steps,x.oO.length≤9223372036854775807
theorem vt (c : aI) (hf : aI.fits c) (s : AS) : ah prog Γ 24 [.agg c.cells] s (fun r s'=>r = .v (.bool (decide c.right))∧s' = s):=by
 refine ab func24 rfl ntmps24 results24 (by simp) ?_;have hpa:=fun s=>Ej (Γ:=Γ) c hf.2.1 hf.2.2 s;have hl:=hf.1;clear hf;obtain ⟨b,hb⟩ : ∃ b,b = decide c.pA:=⟨_,rfl⟩;rw [← hb] at hpa;have hbp : c.pA↔b = true:=(by rw [hb]; exact (decide_eq_true_iff).symm);have hR : (∀ x ∈ c.props,x.right)→decide c.right = decide ((1≤c.group.length∧c.group.length≤16)∧(0≤c.b8∧c.b8≤1048576)∧(0≤c.br∧c.br < 32)∧c.props.length≤16∧b = true∧c.gY.length = 32∧c.DU.length = 32):=by
  intro h;refine decide_eq_decide.2 ⟨fun q=>?_,fun q=>?_⟩
  ·obtain ⟨_,q1,q2,q3,q4,q5,q6⟩:=q;exact ⟨q1,q2,q3,q4,hbp.1 q5,q6⟩
  ·obtain ⟨q1,q2,q3,q4,q5,q6⟩:=q;exact ⟨h,q1,q2,q3,q4,hbp.2 q5,q6⟩
 have NV : ∀ y,y ∈ c.props→¬ y.right→decide c.right = false:=fun y hy h=>decide_eq_false fun q=>h (q.1 y hy);generalize decide c.right = R at *
 clear hb hbp;obtain ⟨g,e,sd,ps,hp,⟨pk,pp,dk⟩,cf,mb⟩:=c;simp only at hl hR NV;unfold aI.cells at hpa ⊢;have fU:=fun i (h : i < ps.length)=>dB (c:=aF.cells) (k:=5) (fun _=>rfl) h;generalize hX : au bk.cells dk = X at *
 generalize hZ : au aF.cells ps = Z at *
 refine az 1 (by simp [bP]) ?_;intro K hK;refine jM ?_;intro o ho;refine hK _ _ o _ rfl ho ?_;clear hK K ho;refine wK fun K hK=>?_;refine jA ?_;refine ag ?_;refine aH (fun E s1=>∃ i : Nat,i≤ps.length∧E 8 = .v (.int .i64 i)∧E 7 = .v (.int .i64 ps.length)∧E 6 = .sl 5 ps.length Z .any∧E 1 = .cX [.sl 1 g.length (g.map aw) .any,.v (.int .i64 e),.v (.int .i64 sd),.sl 5 ps.length Z .any,.v (.bool hp),.v (.int .u64 pk),.sl 1 pp.length (pp.map aw) .any,.sl 2 dk.length X .any,.sl 1 cf.length (cf.map aw) .any,.sl 1 mb.length (mb.map aw) .any]∧(∀ p ∈ ps.take i,p.right)∧s1 = s)
  (fun E _=>match E 8 with | .v (.int _ i)=>ps.length - i.toNat | _=>0) ?_ ?_
 ·exact ⟨0,Nat.zero_le _,rfl,rfl,rfl,rfl,by simp,rfl⟩
 ·rintro E1 s1 ⟨i,hi,g8,g7,g6,g1,bT,rfl⟩ -
  by_cases aO : i < ps.length
  ·refine jB (Ai @g8 (Ai @g7 (Ai @af (decide_eq_true aO)))) ?_;refine wK fun K3 bB=>?_;refine jE ?_;refine ad ?_;refine bB _ _ ?_;clear bB K3;refine wK fun K3 bB=>?_;refine ag ?_;have bN:=fU i aO;have bK : (0 : Int)≤(i : Int):=(by omega);obtain ⟨y,hy⟩ : ∃ y,y = ps[i]:=⟨_,rfl⟩;rw [← hy] at bN;have zF : y ∈ ps:=(by rw [hy]; exact List.getElem_mem aO);have gQ : y.right→∀ x ∈ ps.take (i + 1),x.right:=fun h=>oH aO bT (by rw [← hy]; exact h);have dV:=NV y zF;have il:=fun s=>Ei (Γ:=Γ) y s;clear hy;obtain ⟨pk1,pk2,pk3,pk4,pk5⟩:=y;unfold aF.cells at bN il;refine az 4 (by simp [bP]) ?_;intro K2 aX;refine jN (Ai @g8 (Ai @g6 (Ai @af (Ai @aO (Ai @bK @bN))))) ?_;intro o ho;refine aX _ _ o _ rfl ho ?_;clear aX K2 ho;refine jQ fun K hK=>?_;refine ae (il _) ?_;rintro r s2 ⟨rfl,rfl⟩;by_cases h1 : aF.right ⟨pk1,pk2,pk3,pk4,pk5⟩
   ·refine jV (decide_eq_true h1) hK ?_;clear hK K;refine jF ?_;refine ad ?_;simp only [aq,av,if_true,if_false];refine bB _ _ ?_;clear bB K3;refine jD (Ai @g8 (aQ i (by omega))) ?_;refine ⟨⟨i + 1,by omega,rfl,g7,g6,g1,gQ h1,rfl⟩,?_⟩;simp only [g8,aG,↓reduceIte];omega
   ·refine jV (decide_eq_false h1) hK ?_;clear hK K;refine jE ?_;refine jA ?_;refine jI ?_;exact jW ⟨by rw [dV h1],rfl⟩
  ·have hR:=hR (lR aO bT);clear NV;refine jB (Ai @g8 (Ai @g7 (Ai @af (decide_eq_false aO)))) ?_;refine wK fun K3 bB=>?_;refine jF ?_;refine aB ?_;simp only [av,aq,if_true];refine hK _ _ ?_;clear hK K bB K3;refine jS @g1 fun K hK=>?_;refine ae (xJ g _) ?_;rintro r s2 ⟨rfl,rfl⟩;by_cases h1 : 1≤g.length∧g.length≤16
   ·rcases OE (decide (0≤e)) (decide (e≤1048576)) with hd | hd | hd;case inr.inr =>
     refine jN (Ai @g1 (Ai (decide_eq_true h1) @hd)) ?_;refine ae (tM sd _) ?_;rintro r s3 ⟨rfl,rfl⟩;simp only [decide_eq_true_eq] at hd;by_cases h2 : 0≤sd∧sd < 32
     ·by_cases h3 : ps.length≤16
      ·refine jN (Ai @g1 (Ai (decide_eq_true h2) (decide_eq_true (show (ps.length : Int)≤16 by omega)))) ?_;refine ae (hpa _) ?_;rintro r s4 ⟨rfl,rfl⟩;cases b with
       | true =>
        rcases OE ((cf.length : Int) == 32) ((mb.length : Int) == 32) with GJ | GJ | GJ;all_goals
         refine jV (Ai @g1 @GJ) hK ?_;clear hK K;refine jI ?_;refine jW ⟨?_,rfl⟩;simp only [beq_iff_eq,beq_eq_false_iff_ne,ne_eq] at GJ;rw [hR];congr 2;symm;first
          | exact decide_eq_true ⟨h1,hd,h2,h3,rfl,by omega,by omega⟩
          | exact decide_eq_false fun h=>by omega
       | false =>
        refine jV @g1 hK ?_;clear hK K;refine jI ?_;exact jW ⟨by rw [hR]; simp,rfl⟩
      ·refine jV (Ai @g1 (Ai (decide_eq_true h2) (decide_eq_false (show ¬ (ps.length : Int)≤16 by omega)))) hK ?_;clear hK K;refine jI ?_;exact jW ⟨by rw [hR,decide_eq_false fun h=>h3 h.2.2.2.1],rfl⟩
     ·refine jV (Ai @g1 (decide_eq_false h2)) hK ?_;clear hK K;refine jI ?_;exact jW ⟨by rw [hR,decide_eq_false fun h=>h2 h.2.2.1],rfl⟩
    all_goals
     refine jV (Ai @g1 (Ai (decide_eq_true h1) @hd)) hK ?_;clear hK K;refine jI ?_;refine jW ⟨?_,rfl⟩;simp only [decide_eq_true_eq,decide_eq_false_iff_not] at hd;rw [hR,decide_eq_false fun h=>by have:=h.2.1; omega]
   ·refine jV (Ai @g1 (decide_eq_false h1)) hK ?_;clear hK K;refine jI ?_;exact jW ⟨by rw [hR,decide_eq_false fun h=>h1 h.1],rfl⟩
theorem tA {c : aI} (h : c.wf) : aI.fits c:=by
 obtain ⟨h1,⟨h2,h3,h4⟩,h5⟩:=h;unfold maxLen at h4 h5;refine ⟨by omega,by omega,fun x hx=>?_⟩;have:=(h3 x hx).2.2;unfold maxLen at this;omega
end Go.Proofs.YtcjifoccjlpapaaGreatDoor
namespace Go.AM
open Go
variable {Γ : Nat→List AV} {s s' : AS}
theorem KM {name : List UInt8} {key : Nat} (h : (bq name key).right) : aA [bq name key]:=by
  have hl : aY [bq name key] = 1:=(by unfold aY; simp [Fit]);refine ⟨by rw [hl]; decide,fun i hi=>?_,.inl hl⟩;have lI : i = 0:=(by simp at hi; omega);subst lI;refine ⟨⟨h,.inr ⟨fun _=>rfl,fun _=>rfl⟩,fun u hu=>by cases hu⟩,fun _ _ j hj gh=>?_⟩;have : iS [bq name key] = 1:=(by unfold iS; simp);omega
end Go.AM
namespace Go.Proofs.YtcjifoccjlpapaaGreatDoor
open Go Go.AM Go.Proofs Tryz
variable {Γ : Nat→List AV}
theorem yn (t : List aa) (sd : Int) (s : AS) : ah prog Γ 26 [ax t,.v (.int .i64 sd),.sl 5 0 [] .any] s (fun r s'=>r = .dZ [ax t,aC [] .any,.v (.bool true)]∧s' = s):=by
 refine ab func26 rfl ntmps26 results26 (by simp) ?_;have bN:=fun (i : Nat) (h : i < 3)=>dC (l:=[2,3,1]) (i:=i) h;have Bd : [AV.v (.int .i64 2),.v (.int .i64 3),.v (.int .i64 1)] = [2,3,1].map aE:=rfl;generalize hks : [2,3,1].map aE = KS at *
 unfold ax aC;generalize au aa.cells t = X;refine jA ?_;refine jA ?_;refine jA ?_;refine wK fun K hK=>?_;refine jA ?_;refine ag ?_;refine aH (fun E s2=>∃ i : Nat,i≤3∧E 22 = .v (.int .i64 i)∧E 21 = .v (.int .i64 3)∧E 20 = .sl 1 3 KS .new∧E 0 = .sl 5 t.length X .any∧E 9 = .v (.slice none 0 0)∧E 2 = .sl 5 0 [] .any∧s2 = s)
  (fun E _=>match E 22 with | .v (.int _ i)=>3 - i.toNat | _=>0) ?_ ?_
 ·refine ⟨0,by decide,rfl,rfl,?_,rfl,rfl,rfl,rfl⟩;simp only [aG,Nc,↓reduceIte];rw [← Bd];rfl
 ·rintro E1 s4 ⟨i,hi,g22,g21,g20,g0,g9,g2,rfl⟩ -
  by_cases aO : i < 3
  ·refine jB (Ai @g22 (Ai @g21 (decide_eq_true (show ((i : Nat) : Int) < 3 by omega)))) ?_;refine wK fun K2 aX=>?_;refine jE ?_;refine ad ?_;refine aX _ _ ?_;clear aX K2;refine wK fun K3 bB=>?_;refine ag ?_;have bK : (0 : Int)≤(i : Int):=(by omega);have Bi : decide ((i : Int) < 3) = true:=decide_eq_true (by omega);have gq:=bN i aO;refine jB (Ai @g20 (Ai @g22 (Ai @bK (Ai @aO (Ai @gq @af))))) ?_;refine jB @g2 ?_;refine ag ?_;refine aH (fun E s2=>E 28 = .v (.int .i64 0)∧E 27 = .v (.int .i64 (0 : Nat))∧E 22 = .v (.int .i64 i)∧E 21 = .v (.int .i64 3)∧E 20 = .sl 1 3 KS .new∧E 0 = .sl 5 t.length X .any∧E 9 = .v (.slice none 0 0)∧E 2 = .sl 5 0 [] .any∧s2 = s4)
    (fun E _=>0) ?_ ?_
   ·exact ⟨rfl,rfl,g22,g21,g20,g0,g9,g2,rfl⟩
   ·rintro E2 s5 ⟨GM,Cq,k22,k21,k20,k0,k9,k2,rfl⟩ -
    refine jB (Ai @GM (Ai @Cq (show decide ((0 : Int) < ((0 : Nat) : Int)) = false from rfl))) ?_;refine wK fun K5 js=>?_;refine jF ?_;refine aB ?_;simp only [av,aq,if_true,if_false,Nc];refine bB _ _ ?_;clear bB K3 js K5;refine jD (Ai @k22 (aQ i (by omega))) ?_;refine ⟨⟨i + 1,by omega,rfl,k21,k20,k0,k9,k2,rfl⟩,?_⟩;simp only [g22,aG,↓reduceIte];omega
  ·refine jB (Ai @g22 (Ai @g21 (decide_eq_false (show ¬ ((i : Nat) : Int) < 3 by omega)))) ?_;refine wK fun K2 aX=>?_;refine jF ?_;refine aB ?_;simp only [av,aq,if_true];refine hK _ _ ?_;clear hK aX K2 K;refine jB (Ai @g0 @g9) ?_;refine jI ?_;exact ⟨_,_,AV.eD (AV.aL.refl _) AV.aP (AV.aL.refl _),AS.le.refl _,rfl,rfl⟩
def bl (S : gy) (C : aI) (F : List aa × List Int × Bool) : List aa × List Int × Int :=
 if ¬ (S.right∧C.right) then ([],[],12) else
 if C.group≠S.group then ([],[],41) else
 if C.b8≠S.b8 then ([],[],42) else
 if S.b8 = 1048576 then ([],[],47) else
 if ¬ bx S.tree C.br then ([],[],43) else
 if F.2.2 = true then (F.1,F.2.1,0) else ([],[],44)
theorem gW (e : Int) : (AV.dZ [.v (.slice none 0 0),.v (.slice none 0 0),.v (.int .i64 e)]).aL (.dZ [fm [],aC [] .any,.v (.int .i64 e)]) :=
 AV.eD (by rw [show fm [] = bL from if_pos rfl]; exact AV.aL.refl _) AV.aP (AV.aL.refl _)
theorem sJ (hG : Γ 3 = eW.map nj) (S : gy) (ht : S.wf) (C : aI) (hf : aI.fits C) (F : List aa × List Int × Bool)
  (hF : S.right→C.right→bx S.tree C.br→∀ s,ah prog Γ 26 [ax S.tree,.v (.int .i64 C.br),.sl 5 C.props.length (au aF.cells C.props) .any] s (fun r s'=>r = .dZ [if F.2.2 = true then ax F.1 else bL,aC F.2.1 .any,.v (.bool F.2.2)]∧s' = s))
  (hR : S.right→C.right→bx S.tree C.br→F.2.2 = true→aA F.1) (s : AS) :
  ah prog Γ 8 [.agg S.cells,.agg C.cells] s (fun r s'=>r = .dZ [fm (bl S C F).1,aC (bl S C F).2.1 .any,.v (.int .i64 (bl S C F).2.2)]∧s' = s):=by
 refine ab func8 rfl ntmps8 results8 (by simp) ?_;have h1:=fun s=>qV (Γ:=Γ) hG S ht s;have h2:=fun s=>vt (Γ:=Γ) C hf s;have h3:=fun s=>de (Γ:=Γ) C.group S.group s;have KQ : ¬ S.right→bl S C F = ([],[],12):=fun h=>if_pos fun k=>h k.1;have OH : ¬ C.right→bl S C F = ([],[],12):=fun h=>if_pos fun k=>h k.2;have Oj : S.right→C.right→C.group≠S.group→bl S C F = ([],[],41):=(fun a b h=>by unfold bl; rw [if_neg (fun k=>k ⟨a,b⟩),if_pos h]);have Nx : S.right→C.right→C.group = S.group→C.b8≠S.b8→bl S C F = ([],[],42):=(fun a b c h=>by unfold bl; rw [if_neg (fun k=>k ⟨a,b⟩),if_neg (fun k=>k c),if_pos h]);have ZP : S.right→C.right→C.group = S.group→C.b8 = S.b8→S.b8 = 1048576→bl S C F = ([],[],47):=(fun a b c d h=>by unfold bl; rw [if_neg (fun k=>k ⟨a,b⟩),if_neg (fun k=>k c),if_neg (fun k=>k d),if_pos h]);have ZQ : S.right→C.right→C.group = S.group→C.b8 = S.b8→S.b8≠1048576→¬ bx S.tree C.br→bl S C F = ([],[],43):=(fun a b c d e h=>by unfold bl; rw [if_neg (fun k=>k ⟨a,b⟩),if_neg (fun k=>k c),if_neg (fun k=>k d),if_neg e,if_pos h]);have UE : S.right→C.right→C.group = S.group→C.b8 = S.b8→S.b8≠1048576→bx S.tree C.br→F.2.2 = true→bl S C F = (F.1,F.2.1,0):=(fun a b c d e f h=>by unfold bl; rw [if_neg (fun k=>k ⟨a,b⟩),if_neg (fun k=>k c),if_neg (fun k=>k d),if_neg e,if_neg (fun k=>k f),if_pos h]);have UF : S.right→C.right→C.group = S.group→C.b8 = S.b8→S.b8≠1048576→bx S.tree C.br→F.2.2 = false→bl S C F = ([],[],44):=(fun a b c d e f h=>by unfold bl; rw [if_neg (fun k=>k ⟨a,b⟩),if_neg (fun k=>k c),if_neg (fun k=>k d),if_neg e,if_neg (fun k=>k f),if_neg (by rw [h]; decide)]);have Oi : C.right→0≤C.br∧C.br < 32:=fun h=>h.2.2.2.1;have fN : S.right→aA S.tree:=fun h=>h.2.2.2.1;obtain ⟨FT,FL,FB⟩:=F;simp only at hF hR UE UF;generalize bl S C (FT,FL,FB) = PT at *
 obtain ⟨PT1,PT2,PT3⟩:=PT;by_cases hS : S.right
 ·by_cases hC : C.right
  ·have hC1:=Oi hC;have hS1:=fN hS;rw [decide_eq_true hS] at h1;rw [decide_eq_true hC] at h2;replace Oj:=Oj hS hC;replace Nx:=Nx hS hC;replace ZP:=ZP hS hC;replace ZQ:=ZQ hS hC;replace UE:=UE hS hC;replace UF:=UF hS hC;replace hF:=hF hS hC;replace hR:=hR hS hC;clear KQ OH Oi fN hf ht;clear hS hC;obtain ⟨cg,ce,cs,cp,ch,qd,cc,cm⟩:=C;obtain ⟨sg,se,st,sc,si⟩:=S;unfold aI.cells gy.cells at *
   simp only at *
   have ZR:=fun (i : Nat) (h : i < st.length)=>cT (t:=st) h;unfold ax at hF;unfold ax ak at *
   generalize au aa.cells st = X at *
   generalize au aF.cells cp = CP at *
   generalize au bk.cells qd.steps = CS at *
   refine bY 2 3 (by decide) (by decide) (by decide) ?_;intro K hK;refine jM ?_;intro o1 q1 o2 q2;refine hK _ _ o1 o2 _ _ rfl rfl q1 (by rw [AS.cQ]; exact q2) ?_;clear hK K q1 q2;refine wK fun K hK=>?_;refine ag ?_;refine jQ fun K hK=>?_;refine ae (h1 _) ?_;rintro r s1 ⟨rfl,rfl⟩;refine jM ?_;refine ae (h2 _) ?_;rintro r s2 ⟨rfl,rfl⟩;refine jR hK ?_;clear hK K;refine jF ?_;by_cases hg : cg = sg
   ·rw [decide_eq_true hg] at h3;refine jK (h3 _) ?_;rintro s3 rfl;refine jF ?_;by_cases he : ce = se
    ·refine jB (cC he) ?_;refine jF ?_;by_cases Mn : se = 1048576
     ·cases ZP hg he Mn;refine jB (gJ Mn) ?_;refine jE ?_;refine jA ?_;refine jI ?_;exact ⟨_,_,gW _,AS.le.refl _,rfl,rfl⟩
     ·refine jB (dU Mn) ?_;refine jF ?_;obtain ⟨n,rfl⟩:=Int.eq_ofNat_of_zero_le hC1.1;have Zd : bx st (n : Int)↔2 * n < st.length∧(nd st (2 * n)).kind = 1:=by
       rw [← tp hS1];unfold c7;rw [Int.toNat_natCast];exact ⟨fun h=>⟨by omega,h.2.2⟩,fun h=>⟨by omega,by omega,h.2⟩⟩
      have bK : (0 : Int)≤((2 * n : Nat) : Int):=(by omega);by_cases hm : bx st (n : Int)
      ·obtain ⟨m1,m2⟩:=Zd.1 hm;have bN:=ZR _ m1;generalize nd st (2 * n) = N at *
       obtain ⟨nk,nm,ny,np,nu⟩:=N;unfold aa.cells ak at bN;simp only at m2;subst m2;replace hF:=hF hm;replace hR:=hR hm;refine jB (Ai (bw n (by omega)) (Ai @af (Ai @m1 (Ai @bK (Ai @bN (Ai (decide_eq_false (show ¬ (st.length : Int)≤((2 * n : Nat) : Int) by omega)) (show ((1 : Int) != 1) = false from rfl))))))) ?_;refine jF ?_;refine ad ?_;refine hK _ _ ?_;clear hK K;refine jK (hF _) ?_;rintro s4 rfl;refine wK fun K hK=>?_;cases FB with
       | true =>
        cases UE hg he Mn hm rfl;have MF:=hR rfl;have xdc:=fun s=>AZ (Γ:=Γ) FT (by have:=MF.len; have:=this.2.le; omega) (fun q hq=>by have:=gM (MF.nodes hq); unfold qP; omega) s;rw [gK (oK MF)] at hK;simp only [if_true];unfold ax aC at *
        refine jA ?_;refine jF ?_;refine ad ?_;refine hK _ _ ?_;clear hK K;refine jK (xdc _) ?_;rintro s5 rfl;exact jJ
       | false =>
        cases UF hg he Mn hm rfl;refine jA ?_;refine jE ?_;refine jA ?_;refine jI ?_;exact ⟨_,_,gW _,AS.le.refl _,rfl,rfl⟩
      ·cases ZQ hg he Mn hm;by_cases m1 : 2 * n < st.length
       ·have m2 : (nd st (2 * n)).kind≠1:=fun q=>hm (Zd.2 ⟨m1,q⟩);have bN:=ZR _ m1;generalize nd st (2 * n) = N at *
        obtain ⟨nk,nm,ny,np,nu⟩:=N;unfold aa.cells ak at bN;simp only at m2;refine jB (Ai (bw n (by omega)) (Ai @af (Ai @m1 (Ai @bK (Ai @bN (Ai (decide_eq_false (show ¬ (st.length : Int)≤((2 * n : Nat) : Int) by omega)) (bF m2))))))) ?_;refine jE ?_;refine jA ?_;refine jI ?_;exact ⟨_,_,gW _,AS.le.refl _,rfl,rfl⟩
       ·refine jB (Ai (bw n (by omega)) (decide_eq_true (show (st.length : Int)≤((2 * n : Nat) : Int) by omega))) ?_;refine jE ?_;refine jA ?_;refine jI ?_;exact ⟨_,_,gW _,AS.le.refl _,rfl,rfl⟩
    ·cases Nx hg he;refine jB (bF he) ?_;refine jE ?_;refine jA ?_;refine jI ?_;exact ⟨_,_,gW _,AS.le.refl _,rfl,rfl⟩
   ·cases Oj hg;rw [decide_eq_false hg] at h3;refine jK (h3 _) ?_;rintro s3 rfl;refine jE ?_;refine jA ?_;refine jI ?_;exact ⟨_,_,gW _,AS.le.refl _,rfl,rfl⟩
  ·cases OH hC;rw [decide_eq_true hS] at h1;rw [decide_eq_false hC] at h2;clear KQ OH Oj Nx ZP ZQ UE UF hF hR Oi fN hf ht hS hC h3;obtain ⟨cg,ce,cs,cp,ch,qd,cc,cm⟩:=C;obtain ⟨sg,se,st,sc,si⟩:=S;unfold aI.cells gy.cells at *
   simp only at *
   unfold ax ak at *
   generalize au aa.cells st = X at *
   generalize au aF.cells cp = CP at *
   generalize au bk.cells qd.steps = CS at *
   refine bY 2 3 (by decide) (by decide) (by decide) ?_;intro K hK;refine jM ?_;intro o1 q1 o2 q2;refine hK _ _ o1 o2 _ _ rfl rfl q1 (by rw [AS.cQ]; exact q2) ?_;clear hK K q1 q2;refine wK fun K hK=>?_;refine ag ?_;refine jQ fun K hK=>?_;refine ae (h1 _) ?_;rintro r s1 ⟨rfl,rfl⟩;refine jM ?_;refine ae (h2 _) ?_;rintro r s2 ⟨rfl,rfl⟩;refine jR hK ?_;clear hK K;refine jE ?_;refine jA ?_;refine jI ?_;exact ⟨_,_,gW _,AS.le.refl _,rfl,rfl⟩
 ·cases KQ hS;rw [decide_eq_false hS] at h1;clear KQ OH Oj Nx ZP ZQ UE UF hF hR Oi fN hf ht hS h3 h2;obtain ⟨cg,ce,cs,cp,ch,qd,cc,cm⟩:=C;obtain ⟨sg,se,st,sc,si⟩:=S;unfold aI.cells gy.cells at *
  simp only at *
  unfold ax ak at *
  generalize au aa.cells st = X at *
  generalize au aF.cells cp = CP at *
  generalize au bk.cells qd.steps = CS at *
  refine bY 2 3 (by decide) (by decide) (by decide) ?_;intro K hK;refine jM ?_;intro o1 q1 o2 q2;refine hK _ _ o1 o2 _ _ rfl rfl q1 (by rw [AS.cQ]; exact q2) ?_;clear hK K q1 q2;refine wK fun K hK=>?_;refine ag ?_;refine jK (h1 _) ?_;rintro s1 rfl;refine jE ?_;refine jA ?_;refine jI ?_;exact ⟨_,_,gW _,AS.le.refl _,rfl,rfl⟩
theorem A0 (C : aI) (h0 : C.props = []) (s : AS) : ah prog Γ 35 [.agg C.cells] s (fun r s'=>r = .v (.bool true)∧s' = s):=by
 refine ab func35 rfl ntmps35 results35 (by simp) ?_;obtain ⟨cg,ce,cs,cp,ch,qd,cc,cm⟩:=C;simp only at h0;subst h0;unfold aI.cells ak;simp only;generalize au bk.cells qd.steps = CS at *
 have JO : au aF.cells [] = []:=rfl;rw [JO];refine az 1 (by decide) ?_;intro K hK;refine jM ?_;intro o ho;refine hK _ _ o _ rfl ho ?_;clear hK K ho;refine jB (show (((0 : Nat) : Int) == 0) = true from rfl) ?_;exact jJ
theorem A5 (hG : Γ 3 = eW.map nj) (S : gy) (ht : S.wf) (C : aI) (hf : aI.fits C) (h0 : C.props = []) (hp : C.gZ = false) (hT : bl S C (S.tree,[],true) = (S.tree,[],0)) (s : AS) :
  ah prog Γ 10 [.agg S.cells,.agg C.cells] s (fun r s'=>r = .dZ [.agg gy.bp.cells,aC [] .any,.v (.int .i64 45)]∧s' = s):=by
 refine ab func10 rfl ntmps10 results10 (by simp) ?_;have h1:=fun s=>sJ (Γ:=Γ) hG S ht C hf (S.tree,[],true) (fun _ _ _ s=>by
  rw [h0];exact yn (Γ:=Γ) S.tree C.br s) (fun h _ _ _=>h.2.2.2.1) s
 rw [hT] at h1;have h2:=fun s=>A0 (Γ:=Γ) C h0 s;simp only at h1;clear hT ht hf;obtain ⟨cg,ce,cs,cp,ch,qd,cc,cm⟩:=C;simp only at h0 hp;subst h0 hp;obtain ⟨sg,se,st,sc,si⟩:=S;unfold aI.cells gy.cells at *
 simp only at *
 generalize fm st = TN at *
 unfold ax ak aC at *
 generalize au aa.cells st = X at *
 generalize au bk.cells qd.steps = CS at *
 have JO : au aF.cells [] = []:=rfl;rw [JO] at *
 refine bY 2 3 (by decide) (by decide) (by decide) ?_;intro K hK;refine jM ?_;intro o1 q1 o2 q2 o3 q3;obtain ⟨e3,r1,r2,r3⟩:=AS.oF s q1 q2 q3 [.v (.slice none 0 0),.v (.int .i64 0),.v (.slice none 0 0),.v (.slice none 0 0),.v (.slice none 0 0)];rw [e3];refine hK _ _ o1 o2 _ _ rfl rfl r1 r2 ?_;clear hK K q1 q2 q3 e3 r1 r2;refine jK (h1 _) ?_;rintro s1 rfl;refine wK fun K hK=>?_;refine ag ?_;refine jB (show ((0 : Int) != 0) = false from rfl) ?_;refine jF ?_;refine jK (h2 _) ?_;rintro s2 rfl;refine jE ?_;refine jB @AS.aj ?_;refine bo ?_;refine cY (o:=o3) (off:=0) rfl (AS.aj _ _ _) (by rw [T.Bn]; decide) (by simp only [↓DN,Qa,Qb,Qc,Qd,Qe,Qf,Qg,Qh,reduceCtorEq,↓reduceIte,Na,Nb,Nc,Nk,Nf,Ng,Nh,Za,Zb,Zc,TT]; rfl) ?_;exact ⟨_,s,AV.eD dN AV.aP (AV.aL.refl _),AS.bg (AS.le.refl _) r3 _,rfl,rfl⟩
def Gv : gy:=(tL [103] [97] 9).1
def cA : aI:=⟨[103],0,0,[],false,⟨0,[],[]⟩,cr,cr⟩
theorem NW : cA.right:=by decide +kernel
theorem Qs : aI.fits cA:=⟨by decide,by decide,(by intro x hx; cases hx)⟩
theorem Gw : (bq [97] 9).right:=by decide +kernel
theorem wW : tL [103] [97] 9 = (⟨[103],0,[bq [97] 9],cr,Sha.sum (cr ++ cr)⟩,0):=if_pos ⟨Gw,by decide⟩
theorem wX : Gv.right:=by
 unfold Gv;rw [wW];exact ⟨by decide,by decide,by decide,KM Gw,by decide,Sha.dq _⟩
theorem NY : bl Gv cA (Gv.tree,[],true) = (Gv.tree,[],0):=by
 have hm : bx Gv.tree 0:=(by unfold Gv; rw [wW]; decide +kernel);have e1 : Gv.group = [103]:=(by unfold Gv; rw [wW]);have e2 : Gv.b8 = 0:=(by unfold Gv; rw [wW]);unfold bl;rw [if_neg (fun k=>k ⟨wX,NW⟩),if_neg (fun k=>k e1.symm),if_neg (fun k=>k e2.symm),if_neg (by rw [e2]; decide),if_neg (fun k=>k hm),if_pos rfl]
theorem BB (n9 : Γ 0 = gR Sha.H0) (kV : Γ 1 = Sha.K.map wV) (hG : Γ 3 = eW.map nj) (s : AS) : ah prog Γ 5 [] s (fun r s'=>r = .v (.bool true)∧s' = s):=by
 refine ab func5 rfl ntmps5 results5 (by simp) ?_;have h1:=fun s=>AW (Γ:=Γ) n9 kV [103] [97] 9 (by decide) (by decide) s;have h2:=fun s=>A5 (Γ:=Γ) hG Gv (tr wX.2.2.2.1) cA Qs rfl rfl NY s;have il : (tL [103] [97] 9).1 = Gv:=rfl;have he : (tL [103] [97] 9).2 = 0:=(by rw [wW]);rw [il,he] at h1;have e2 : Gv.b8 = 0:=(by unfold Gv; rw [wW]);have e5 : Gv.inter.length = 32:=wX.2.2.2.2.2;have KZ:=xI;have hcA : cA.cells = [.sl 1 1 [.v (.int .u8 103)] .any,.v (.int .i64 0),.v (.int .i64 0),.sl 5 0 [] .any,.v (.bool false),.v (.int .u64 0),.sl 1 0 [] .any,.sl 2 0 [] .any,.sl 1 32 (cr.map aw) .any,.sl 1 32 (cr.map aw) .any]:=rfl;rw [hcA] at h2;have xb : gy.bp.cells = [.sl 1 0 [] .any,.v (.int .i64 0),.sl 5 0 [] .any,.sl 1 0 [] .any,.sl 1 0 [] .any]:=rfl;rw [xb] at h2;generalize Gv = S at *
 obtain ⟨sg,se,st,sc,si⟩:=S;simp only at e2 e5;subst e2;unfold gy.cells at *
 simp only at *
 unfold ax ak aC at *
 rw [e5] at *
 generalize cr.map aw = Z at *
 generalize au aa.cells st = X at *
 have RP : ∀ x : AV,List.replicate 1 x = [x]:=fun _=>rfl;refine jA ?_;refine az 1 (by decide) ?_;intro K hK;refine jN @RP ?_;refine ae (ah.jq (.cons AV.db (.cons AV.db (.cons (AV.aL.refl _) .nil))) (h1 _)) ?_;rintro r s1 ⟨rfl,rfl⟩;refine jM ?_;intro o1 q1;refine hK _ _ o1 _ rfl q1 ?_;clear hK K q1;refine Fi T.mixed [11,12] [(3,32),(4,32)] [(6,.dZ [.agg [.sl 1 0 [] .any,.v (.int .i64 0),.sl 5 0 [] .any,.sl 1 0 [] .any,.sl 1 0 [] .any],.sl 1 0 [] .any,.v (.int .i64 45)])] [11] (by kernel_rfl) ?_;intro K hK;simp only [↓uC,↓qB,↓oD,oC,mr,mw,kE,lD,cw,DX,Nat.reduceBEq,List.toList_toArray,List.map_cons,List.map_nil,aN,↓DN,Qa,Qb,Qc,Qd,Qe,Qf,Qg,Qh,reduceCtorEq,↓reduceIte,Na,Nb,Nc,Nk,Nf,Ng,Nh,Za,Zb,Zc,TT,RP,KZ];refine U5 (fun s=>ah.jq (.cons (AV.aL.refl _) (.cons (AV.fR (.cons AV.db (.cons (AV.aL.refl _) (.cons (AV.aL.refl _) (.cons AV.aP (.cons (AV.aL.refl _) (.cons (AV.aL.refl _) (.cons AV.aP (.cons AV.aP (.cons AV.db (.cons AV.db .nil))))))))))) .nil)) (h2 s)) ?_;intro o3 q3;refine hK _ _ ?_;clear hK K;refine jB (Ai (show ((0 : Int) == 0) = true from rfl) (Ai (show (((32 : Nat) : Int) == 32) = true from rfl) (show ((45 : Int) == 45) = true from rfl))) ?_;refine jI ?_;exact ⟨_,_,AV.aL.refl _,AS.bg (AS.le.refl _) q3 _,rfl,rfl⟩
end Go.Proofs.YtcjifoccjlpapaaGreatDoor
