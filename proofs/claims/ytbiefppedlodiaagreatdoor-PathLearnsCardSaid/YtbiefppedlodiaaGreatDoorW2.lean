/- Contracts of functions, each walked once; each theorem states its conditions. -/
import Derived.Test.YtbiefppedlodiaaGreatDoorW1
import Derived.Test.YtbiefppedlodiaaGreatDoorAMp7
import Derived.Shelf.Slices.SearchI
import Derived.Shelf.Slices.Empties
import Derived.Sort.EveryDepth
import Derived.Shelf.Sort.AssemblyIn
import Derived.Lib.RowBridge
import Derived.Test.YtbiefppedlodiaaGreatDoorAMp6
import Derived.Test.YtbiefppedlodiaaGreatDoorAMp4
import Derived.Test.YtbiefppedlodiaaGreatDoorAMp3
set_option linter.unusedSimpArgs false
set_option linter.unusedVariables false
open Nat renaming reduceLT → Na, reduceLeDiff → Nb, reduceEqDiff → Nc, reduceAdd → Nk, reduceMul → Nf, reducePow → Ng, reduceSub → Nh, reduceBEq → Nz
open Int renaming reduceLT → Za, reduceLE → Zb, reduceToNat → Zc
open And renaming intro → Ai
open Go.AM renaming ashift → Qa, aconv → Qb, aindexAddr → Qc, aindex → Qd, aslice → Qe, abuiltin → Qf, awp_reg_seq → wS, awp_reg_end → wE, awp_seq_k → wK, awp_cond_k → wC
open Go.AM.AV renaming cells → Qg, one → Qh
set_option maxRecDepth 100000
set_option maxHeartbeats 8000000
namespace Go.AM
open Go
def aK{α:Type}(c:α→List AV)(l:List α):List AV:=(l.map c).flatten
theorem mW{α:Type}{c:α→List AV}{k:Nat}(hk:∀a,(c a).length=k){l:List α}{i:Nat}(h:i<l.length):List.take k (List.drop (i*k) (aK c l))=c l[i]:=by
  have:=yb (sz:=k) (els:=l.map c) (i:=i) (by simpa using h) (by
    intro el sD;obtain⟨p,_,rfl⟩:=List.mem_map.1 sD;exact hk p)
  unfold aK;rw[this];simp
theorem cj{α:Type}{c:α→List AV}{k:Nat}(hk:∀a,(c a).length=k)(l:List α):(aK c l).length=l.length*k:=by
  induction l with
  |nil=>simp[aK]
  |cons a l ih=>
    have :aK c (a::l)=c a++aK c l:=rfl;rw[this,List.length_append,ih,hk,List.length_cons,Nat.succ_mul,Nat.add_comm]
theorem Mf{α:Type}{c:α→List AV}(l:List α)(a:α):aK c (l++[a])=aK c l++c a:=by simp[aK]
def RS(n:Nat):Prop:=2≤n∧n≤2305843009213693949
instance(n:Nat):Decidable (RS n):=by unfold RS;infer_instance
structure l9 where
  kind:Int
  leaf:Int
  name:List UInt8
  key:Nat
  init:Nat
  deriving DecidableEq
structure eH where
  kc:Nat
  text:List UInt8
  deriving DecidableEq
structure cy where
  key:Nat
  dy:List eH
  deriving DecidableEq
structure dN where
  key:Nat
  parent:List UInt8
  steps:List cy
  deriving DecidableEq
structure cR where
  group:List UInt8
  iB:Int
  CT:Int
  props:List l9
  xi:Bool
  path:dN
  CU:List UInt8
  Ha:List UInt8
  deriving DecidableEq
def l9.cells(p:l9):List AV:=[.v (.int .i64 p.kind),.v (.int .i64 p.leaf),al p.name .any,.v (.int .u64 p.key),.v (.int .u64 p.init)]
def eH.cells(p:eH):List AV:=[.v (.int .u64 p.kc),al p.text .any]
def cy.cells(p:cy):List AV:=[.v (.int .u64 p.key),.sl 2 p.dy.length (aK eH.cells p.dy) .any]
def dN.cells(p:dN):List AV:=[.v (.int .u64 p.key),al p.parent .any,.sl 2 p.steps.length (aK cy.cells p.steps) .any]
def cR.cells(c:cR):List AV:=
  [al c.group .any,.v (.int .i64 c.iB),.v (.int .i64 c.CT),.sl 5 c.props.length (aK l9.cells c.props) .any,.v (.bool c.xi),
   .v (.int .u64 c.path.key),al c.path.parent .any,.sl 2 c.path.steps.length (aK cy.cells c.path.steps) .any,al c.CU .any,al c.Ha .any]
def l9.wf(p:l9):Prop:=p.key<2^64∧p.init<2^64
def eH.wf(p:eH):Prop:=p.kc<2^64
def cy.wf(p:cy):Prop:=p.key<2^64∧(∀x∈p.dy,x.wf)∧p.dy.length≤maxLen
def dN.wf(p:dN):Prop:=p.key<2^64∧(∀x∈p.steps,x.wf)∧p.steps.length≤maxLen
def cR.wf(c:cR):Prop:=(∀x∈c.props,x.wf)∧c.path.wf∧c.props.length≤maxLen
abbrev Zh:Ty:=.int .u64
abbrev TB:Ty:=.struct (.cons Cg (.cons Cg (.cons Bb (.cons Zh (.cons Zh .nil)))))
abbrev TC:Ty:=.struct (.cons Zh (.cons Bb .nil))
abbrev TD:Ty:=.struct (.cons Zh (.cons (.slice 2 TC) .nil))
abbrev TE:Ty:=.struct (.cons Zh (.cons Bb (.cons (.slice 2 TD) .nil)))
abbrev Zi:Ty:=.struct (.cons Bb (.cons Cg (.cons Cg (.cons (.slice 5 TB) (.cons .bool (.cons TE (.cons Bb (.cons Bb .nil))))))))
def l9.right(p:l9):Prop:=
  (p.kind=1∧p.leaf=0∧1≤p.name.length∧p.name.length≤16∧RS p.key∧RS p.init)∨
  (p.kind=2∧0≤p.leaf∧p.leaf<32∧p.name.length=0∧RS p.key∧p.init=0)∨
  (p.kind=3∧0≤p.leaf∧p.leaf<32∧p.name.length=0∧p.key=0∧p.init=0)
def eH.right(p:eH):Prop:=RS p.kc∧p.text.length=48
def cy.right(p:cy):Prop:=(∀x∈p.dy,x.right)∧RS p.key∧p.dy.length≤32
def dN.right(p:dN):Prop:=(∀x∈p.steps,x.right)∧RS p.key∧(p.parent.length=0∨p.parent.length=32)∧p.steps.length≤5
def dN.none(p:dN):Prop:=p.key=0∧p.parent.length=0∧p.steps.length=0
def cR.Hb(c:cR):Prop:=(c.xi=true→c.path.right)∧(c.xi=false→c.path.none)
def cR.right(c:cR):Prop:=
  (∀x∈c.props,x.right)∧(1≤c.group.length∧c.group.length≤16)∧(0≤c.iB∧c.iB≤1048576)∧(0≤c.CT∧c.CT<32)∧c.props.length≤16∧c.Hb∧c.CU.length=32∧c.Ha.length=32
instance(p:l9):Decidable p.right:=by unfold l9.right;infer_instance
instance(p:eH):Decidable p.right:=by unfold eH.right;infer_instance
instance(p:cy):Decidable p.right:=by unfold cy.right;infer_instance
instance(p:dN):Decidable p.right:=by unfold dN.right;infer_instance
instance(p:dN):Decidable p.none:=by unfold dN.none;infer_instance
instance(c:cR):Decidable c.Hb:=by unfold cR.Hb;infer_instance
instance(c:cR):Decidable c.right:=by unfold cR.right;infer_instance
def aW(t:List ah):AV:=.sl 5 t.length (aK ah.cells t) .any
def eI(t:List ah):Prop:=t.length≤2^61∧∀n∈t,n.iA.length≤2^61∧n.key<2^64
def nd(t:List ah)(i:Nat):ah:=t.getD i ah.gT
theorem mZ{t:List ah}{i:Nat}(h:i<t.length):nd t i=t[i]:=by simp[nd,List.getD,h]
theorem eI.nd{t:List ah}(h:eI t)(i:Nat):(nd t i).iA.length≤2^61∧(nd t i).key<2^64:=by
  by_cases hi:i<t.length
  · rw[mZ hi];exact h.2 _ (List.getElem_mem hi)
  · have :Go.AM.nd t i=ah.gT:=(by simp[Go.AM.nd,List.getD,show t.length≤i by omega]);rw[this];exact⟨by decide,by decide⟩
theorem dh{t:List ah}{i:Nat}(h:i<t.length):List.take 5 (List.drop (i*5) (aK ah.cells t))=(nd t i).cells:=by
  rw[mZ h];exact mW (k:=5) (fun _=>rfl) h
def aI(t:List ah):Nat:=if Fit ((t.length+1)/2)∧t.length=2*((t.length+1)/2)-1 then(t.length+1)/2 else 0
theorem bG{t:List ah}:aI t=0∨(Fit (aI t)∧t.length=2*aI t-1):=by
  unfold aI;split
  · rename_i h;exact .inr h
  · exact .inl rfl
theorem CG(t:List ah):aI t≤32:=by
  rcases bG (t:=t) with h|h
  · omega
  · exact h.1.le.2
theorem Mg{t:List ah}{i:Nat}(h:i<aI t):2*i<t.length:=by
  rcases bG (t:=t) with h0|h0
  · omega
  · omega
def et(t:List ah)(i:Int):Prop:=0≤i∧i<(aI t:Int)∧(nd t (2*i.toNat)).kind=1
instance(t:List ah)(i:Int):Decidable (et t i):=by unfold et;infer_instance
def cB(t:List ah)(i:Int):Prop:=0≤i∧2*i<(t.length:Int)∧(nd t (2*i.toNat)).kind=1
instance(t:List ah)(i:Int):Decidable (cB t i):=by unfold cB;infer_instance
theorem yG{t:List ah}(h:aI t≠0)(i:Int):cB t i↔et t i:=by
  rcases bG (t:=t) with h0|h0
  · exact absurd h0 h
  · have:=h0.1.le;unfold cB et;constructor<;>(rintro⟨a,b,c⟩;exact⟨a,by omega,c⟩)
def ga(P:Int→Prop)[DecidablePred P](a:Nat):Nat→Nat
  |0=>0
  |k+1=>ga P a k+if P ((a+k:Nat):Int) then 1 else 0
theorem CV(P:Int→Prop)[DecidablePred P](a:Nat):∀k,ga P a k≤k
  |0=>Nat.le_refl _
  |k+1=>by
    have:=CV P a k;simp only[ga];split <;>omega
theorem se{P Q:Int→Prop}[DecidablePred P][DecidablePred Q](h:∀i,P i↔Q i)(a:Nat):∀k,ga P a k=ga Q a k
  |0=>rfl
  |k+1=>by simp only[ga,se h a k,h]
theorem yH{P:Int→Prop}[DecidablePred P]{a:Nat}:∀{k},0<ga P a k↔∃j,j<k∧P ((a+j:Nat):Int)
  |0=>by simp[ga]
  |k+1=>by
    simp only[ga];constructor
    · intro h;by_cases hp:P ((a+k:Nat):Int)
      · exact⟨k,by omega,hp⟩
      · rw[if_neg hp] at h;obtain⟨j,h1,h2⟩:=(yH (k:=k)).1 (by omega);exact⟨j,by omega,h2⟩
    · rintro⟨j,h1,h2⟩;by_cases e:j=k
      · rw[←e,if_pos h2];omega
      · have:=(yH (k:=k)).2 ⟨j,by omega,h2⟩;omega
def cd(P:Nat→Bool):Nat→Nat→Int
  |0,_=>-1
  |k+1,i=>if P i then(i:Int) else cd P k (i+1)
theorem ks(P:Nat→Bool):∀k i,(cd P k i= -1∧∀j,i≤j→j<i+k→P j=false)∨(∃j,i≤j∧j<i+k∧P j=true∧cd P k i=(j:Int)∧∀m,i≤m→m<j→P m=false)
  |0,i=>.inl ⟨rfl,fun j h1 h2=>by omega⟩
  |k+1,i=>by
    simp only[cd];cases hp:P i with
    |true=>exact .inr ⟨i,Nat.le_refl _,by omega,hp,by simp,fun m h1 h2=>by omega⟩
    |false=>
      simp only[Bool.false_eq_true,if_false];rcases ks P k (i+1) with⟨h1,h2⟩|⟨j,h1,h2,h3,h4,h5⟩
      · refine .inl ⟨h1,fun j a b=>?_⟩;by_cases e:j=i
        · rw[e,hp]
        · exact h2 j (by omega) (by omega)
      · refine .inr ⟨j,by omega,by omega,h3,h4,fun m a b=>?_⟩;by_cases e:m=i
        · rw[e,hp]
        · exact h5 m (by omega) b
theorem vf(P:Nat→Bool)(k i:Nat):decide (0≤cd P k i)=true↔∃j,i≤j∧j<i+k∧P j=true:=by
  rw[decide_eq_true_iff];rcases ks P k i with⟨h1,h2⟩|⟨j,h1,h2,h3,h4,h5⟩
  · rw[h1];constructor
    · intro h;omega
    · rintro⟨j,a,b,c⟩;rw[h2 j a b] at c;cases c
  · rw[h4];exact⟨fun _=>⟨j,h1,h2,h3⟩,fun _=>by omega⟩
def ev(t:List ah):Nat:=(t.length+1)/2
theorem yI{t:List ah}{i:Nat}:i<ev t↔2*i<t.length:=by unfold ev;omega
def oo(t:List ah)(name:List UInt8)(a:Nat):Int:=cd (fun j=>decide (et t j∧(nd t (2*j)).name=name)) (ev t-a) a
def sf(t:List ah)(name:List UInt8):Int:=cd (fun j=>decide (cB t j∧(nd t (2*j)).name=name)) (ev t) 0
def p9(t:List ah)(i:Nat):Prop:=
  (nd t i).right∧((nd t i).kind=0∨((nd t i).kind=1↔i%2=0))∧∀u∈(nd t i).iA,(iD (i:Int)).1≤u∧u≤(iD (i:Int)).2∧et t u
instance(t:List ah)(i:Nat):Decidable (p9 t i):=by unfold p9;infer_instance
def gp(t:List ah)(i:Nat):Prop:=p9 t i∧(i%2=0→et t ((i/2:Nat):Int)→∀j,j<ev t→i/2<j→¬(et t (j:Int)∧(nd t (2*j)).name=(nd t i).name))
def bf(t:List ah):Prop:=aI t≠0∧(∀i,i<t.length→gp t i)∧(aI t=1∨0<ga (et t) (aI t/2) (aI t-aI t/2))
instance(t:List ah)(i:Nat):Decidable (gp t i):=by unfold gp;infer_instance
instance(t:List ah):Decidable (bf t):=by unfold bf;infer_instance
theorem yJ(P:Int→Bool)(l:List Int):decide (0≤cd (fun i=>P (l.getD i 0)) l.length 0)=l.any P:=by
  rw[Bool.eq_iff_iff,vf,List.any_eq_true];constructor
  · rintro⟨j,_,h2,h3⟩;have hj:j<l.length:=(by omega);refine⟨l[j],List.getElem_mem hj,?_⟩;simpa[List.getD,hj] using h3
  · rintro⟨x,hx,hp⟩;obtain⟨j,hj,rfl⟩:=List.getElem_of_mem hx;exact⟨j,Nat.zero_le _,by omega,by simpa[List.getD,hj] using hp⟩
theorem kt{P:Nat→Bool}{k i:Nat}(h:P i=false):cd P (k+1) i=cd P k (i+1):=by simp only[cd,h];rfl
theorem ku{P:Nat→Bool}{k i:Nat}(h:P i=true):cd P (k+1) i=(i:Int):=by simp only[cd,h];rfl
theorem Hc{t:List ah}{n:Nat}(h:Fit n)(hl:t.length=2*n-1):aI t=n:=by
  have:=h.le;unfold aI;rw[show(t.length+1)/2=n by omega];exact if_pos ⟨h,hl⟩
theorem Mh{t:List ah}(h:∀n,Fit n→t.length≠2*n-1):aI t=0:=by
  unfold aI;rw[if_neg];rintro⟨a,b⟩;exact h _ a b
theorem PF{j:Nat}(h:j≤5):Fit (2^j):=(by decide:∀j≤5,Fit (2^j)) j h
def tV(t:List ah)(i:Nat):Prop:=
  (nd t i).right∧((nd t i).kind=0∨((nd t i).kind=1↔i%2=0))∧((nd t i).kind=1→sf t (nd t i).name=((i/2:Nat):Int))∧∀u∈(nd t i).iA,(iD (i:Int)).1≤u∧u≤(iD (i:Int)).2∧cB t u
theorem v7{t:List ah}(name:List UInt8):(∃j,j<ev t∧cB t (j:Int)∧(nd t (2*j)).name=name∧sf t name=(j:Int)∧∀m,m<j→¬(cB t (m:Int)∧(nd t (2*m)).name=name))∨(sf t name= -1∧∀j,j<ev t→¬(cB t (j:Int)∧(nd t (2*j)).name=name)):=by
  rcases ks (fun(j:Nat)=>decide (cB t (j:Int)∧(nd t (2*j)).name=name)) (ev t) 0 with⟨h1,h2⟩|⟨j,h1,h2,h3,h4,h5⟩
  · exact .inr ⟨h1,fun j hj=>of_decide_eq_false (h2 j (Nat.zero_le _) (by omega))⟩
  · obtain⟨h6,h7⟩:=of_decide_eq_true h3;exact .inl ⟨j,by omega,h6,h7,h4,fun m hm=>of_decide_eq_false (h5 m (Nat.zero_le _) hm)⟩
theorem Ff{t:List ah}(h0:aI t≠0):(∀i,i<t.length→tV t i)↔(∀i,i<t.length→gp t i):=by
  have hlen:t.length=2*aI t-1:=(bG.resolve_left h0).2;have hm:=yG (t:=t) h0;have bT:∀i,tV t i→p9 t i:=fun i ⟨a,b,_,d⟩=>⟨a,b,fun u hu=>⟨(d u hu).1,(d u hu).2.1,(hm u).1 (d u hu).2.2⟩⟩;constructor
  · intro h i hi;refine⟨bT i (h i hi),fun he Gx j hj hij ⟨hmj,hnj⟩=>?_⟩;have h2j:2*j<t.length:=yI.1 hj;have Zj:=(h (2*j) h2j).2.2.1 (by have:=hmj.2.2;rwa [Int.toNat_natCast] at this);rw[show 2*j/2=j by omega] at Zj;rcases v7 (t:=t) (nd t (2*j)).name with⟨k,_,_,_,h4,h5⟩|⟨h4,_⟩
    · rw[Zj] at h4;refine h5 (i/2) (by omega) ⟨(hm _).2 Gx,?_⟩;rw[show 2*(i/2)=i by omega,hnj]
    · rw[Zj] at h4;omega
  · intro h i hi;obtain⟨⟨a,b,c⟩,_⟩:=h i hi;refine⟨a,b,fun hk=>?_,fun u hu=>⟨(c u hu).1,(c u hu).2.1,(hm u).2 (c u hu).2.2⟩⟩;have he:i%2=0:=by
      rcases b with b|b
      · omega
      · exact b.1 hk
    have fO:2*(i/2)=i:=(by omega);have Gx:et t ((i/2:Nat):Int):=⟨by omega,by omega,by rw[Int.toNat_natCast,fO];exact hk⟩;rcases v7 (t:=t) (nd t i).name with⟨k,h1,h2,h3,h4,h5⟩|⟨_,h5⟩
    · rw[h4];by_cases e:k=i/2
      · rw[e]
      · exfalso;by_cases bJ:k<i/2
        · have hg:=(h (2*k) (by omega)).2 (by omega) (by rw[show 2*k/2=k by omega];exact(hm _).1 h2) (i/2) (by unfold ev;omega) (by omega);refine hg ⟨Gx,?_⟩;rw[fO,h3]
        · exact h5 (i/2) (by omega) ⟨(hm _).2 Gx,by rw[fO]⟩
    · exact absurd ⟨(hm _).2 Gx,by rw[fO]⟩ (h5 (i/2) (by unfold ev;omega))
structure Iw where
  leaf:Int
  name:List UInt8
  deriving DecidableEq
def Iw.cells(x:Iw):List AV:=[.v (.int .i64 x.leaf),al x.name .any]
theorem bf.len{t:List ah}(h:bf t):t.length=2*aI t-1∧Fit (aI t):=by
  have h1:=(bG.resolve_left h.1);exact⟨h1.2,h1.1⟩
theorem bf.nd{t:List ah}(h:bf t)(i:Nat):(nd t i).right:=by
  by_cases hi:i<t.length
  · exact(h.2.1 i hi).1.1
  · have :Go.AM.nd t i=ah.gT:=(by simp[Go.AM.nd,List.getD,show t.length≤i by omega]);rw[this];exact Cv
theorem vg{n:Nat}(h:n<63)(hl:lv n=0):gi (n:Int)=none:=by unfold gi;rw[eS h,if_pos hl]
theorem qc{n l:Nat}(h:n<63)(hl:lv n=l+1):gi (n:Int)=some (((n-2^l:Nat):Int),((n+2^l:Nat):Int))∧lv (n-2^l)=l∧lv (n+2^l)=l∧n+2^l<63∧2^l≤n∧2^l≤32:=by
  have key:∀n<63,lv n≠0→lv (n-2^(lv n-1))=lv n-1∧lv (n+2^(lv n-1))=lv n-1∧n+2^(lv n-1)<63∧2^(lv n-1)≤n∧2^lv n/2=2^(lv n-1)∧2^(lv n-1)≤32:=(by decide+kernel);obtain⟨k1,k2,k3,k4,k5,k6⟩:=key n h (by omega);rw[hl] at k1 k2 k3 k4 k5 k6;simp only[Nat.add_sub_cancel] at k1 k2 k3 k4 k5 k6;refine⟨?_,k1,k2,k3,k4,k6⟩;unfold gi;rw[eS h,if_neg (by omega),hl,k5];congr 2;omega
theorem PG{L n:Nat}(h:Fit L)(hn:n<2*L-1):n+2^lv n≤2*L-1∧n<63:=by
  obtain⟨m,hm,rfl⟩:=h.pow;exact(by decide+kernel:∀m≤5,∀n<2*2^m-1,n+2^lv n≤2*2^m-1∧n<63) m hm n hn
theorem bf.span{t:List ah}(h:bf t){n:Nat}(hn:n<t.length):n+2^lv n≤t.length∧n<63:=by
  obtain⟨h1,h2⟩:=h.len;rw[h1] at hn⊢;exact PG h2 hn
def iR(skip:List Int)(l:List Int):List Int:=(l.filter fun u=>decide (u∉skip)).map fun u=>2*u
def kV(skip:List Int)(N:ah)(n:Nat):List Int:=if(N.kind=1∧((n/2:Nat):Int)∉skip)∨N.kind=2 then[(n:Int)] else[]
def fG(t:List ah)(skip:List Int):Nat→Nat→List Int
  |0,n=>kV skip (nd t n) n++iR skip (nd t n).iA
  |l+1,n=>if(nd t n).kind=0 then fG t skip l (n-2^l)++fG t skip l (n+2^l) else kV skip (nd t n) n++iR skip (nd t n).iA
theorem lC{N:ah}(h:N.right):N.iA.length≤32∧∀u∈N.iA,0≤u∧u<32:=by
  rcases js h with hk|hk|hk
  · rw[(jr hk).1 h];exact⟨by decide,(by intro u hu;cases hu)⟩
  · have:=((fg hk).1 h).2.2.2;rw[List.eq_nil_of_length_eq_zero this];exact⟨by decide,(by intro u hu;cases hu)⟩
  · have:=((fT hk).1 h).2.2;exact⟨rT this,fun u hu=>ym this hu⟩
theorem tW(skip l:List Int):(iR skip l).length≤l.length:=by
  unfold iR;rw[List.length_map];exact List.length_filter_le _ _
theorem BB{skip l:List Int}{i:Nat}(h:i<l.length):iR skip (l.take (i+1))=iR skip (l.take i)++if l[i]∉skip then[2*l[i]] else[]:=by
  unfold iR;rw[List.take_succ_eq_append_getElem h,List.filter_append,List.map_append];congr 1;by_cases hs:l[i]∉skip
  · rw[if_pos hs];simp[hs]
  · rw[if_neg hs];simp[hs]
theorem qB(skip:List Int)(N:ah)(n:Nat):(kV skip N n).length≤1:=by
  unfold kV;split <;>simp
theorem iM{t:List ah}(hr:bf t)(skip:List Int):∀l n,(fG t skip l n).length≤33*2^l
  |0,n=>by
    have h1:=qB skip (nd t n) n;have h2:=tW skip (nd t n).iA;have h3:=(lC (hr.nd n)).1;simp only[fG,List.length_append];omega
  |l+1,n=>by
    have hp:=Nat.two_pow_pos l;have PH:2^(l+1)=2^l+2^l:=(by rw[Nat.pow_succ];omega);simp only[fG];split
    · have h1:=iM hr skip l (n-2^l);have h2:=iM hr skip l (n+2^l);rw[List.length_append];omega
    · have h1:=qB skip (nd t n) n;have h2:=tW skip (nd t n).iA;have h3:=(lC (hr.nd n)).1;rw[List.length_append];omega
def bC(t:List ah)(x:Int)(skip:List Int):List Int:=if 0≤x∧x<(t.length:Int)∧bf t then fG t skip (lv x.toNat) x.toNat else[]
open Go Go.RowKit
variable{P:Program}{Γ:Nat→List AV}{G:Gh}{s:AS}{w:World}{N:Nat}
def v8:AV→Option Nat
  |.ig o _ _ _ _=>some o
  |_=>none
def gq(p:ah×AV):List AV:=[.v (.int .i64 p.1.kind),al p.1.name .any,.v (.int .u64 p.1.key),al p.1.parent .any,p.2]
theorem Hd(p:ah×AV):(gq p).length=5:=rfl
theorem jy(n:ah):n.cells.length=5:=rfl
theorem ni.le{sz n:Nat}{x:AV}{cs:List AV}{s s':AS}(h:ni sz s x n cs)(k:s.le s'):ni sz s' x n cs:=by
  rcases h with h|⟨o,cap,rest,h1,h2,h3⟩
  · exact .inl h
  · exact .inr ⟨o,cap,rest,h1,k.aw _ _ h2,h3⟩
theorem ni.m6{sz n:Nat}{x:AV}{cs:List AV}{s:AS}{o:Nat}{ds:List AV}(h:ni sz s x n cs)(k:v8 x≠some o):ni sz (s.set o ds) x n cs:=by
  rcases h with h|⟨o',cap,rest,rfl,h2,h3⟩
  · exact .inl h
  · exact .inr ⟨o',cap,rest,rfl,by rw[AS.ao _ (fun e=>k (by rw[e];rfl))];exact h2,h3⟩
theorem ni.PI{sz n:Nat}{x:AV}{cs:List AV}{s:AS}{o:Nat}(h:ni sz s x n cs)(k:v8 x≠some o):ni sz (s.drop o) x n cs:=by
  rcases h with h|⟨o',cap,rest,rfl,h2,h3⟩
  · exact .inl h
  · exact .inr ⟨o',cap,rest,rfl,by rw[AS.qo,gQ _ _ (fun e=>k (by rw[e];rfl))];exact h2,h3⟩
theorem ni.some{sz n:Nat}{x:AV}{cs:List AV}{s:AS}{o:Nat}(h:ni sz s x n cs)(k:v8 x=some o):∃ds,s.aw o=some ds:=by
  rcases h with⟨_,_,rfl|rfl|rfl⟩|⟨o',cap,rest,rfl,h2,h3⟩
  · cases k
  · cases k
  · cases k
  · cases k;exact⟨_,h2⟩
theorem yK{sz:Nat}{sp:Sp}(h:sp=.full∨sp=.new):(AV.sl sz 0 [] sp).aE (.sl sz 0 [] .any):=by
  intro G u hv;simp only[av] at hv⊢;rcases hv with⟨b,off,cap,vs,h1,h2,h3,h4,h5,h6⟩|⟨_,_,a,cap,h1,_⟩|⟨_,_,h1,_⟩
  · exact .inl ⟨b,off,cap,vs,h1,h2,h3,h4,h5,trivial⟩
  · exact .inr (.inl ⟨trivial,trivial,a,cap,h1,by simp⟩)
  · rcases h with rfl|rfl<;>cases h1
structure TF(s0 s:AS)(T:List (ah×AV)):Prop where
  buf:∀p∈T,ni 1 s p.2 p.1.iA.length (p.1.iA.map aJ)
  new:∀p∈T,∀o,v8 p.2=some o→s0.aw o=none
  sep:T.Pairwise fun p q=>∀o,v8 p.2=some o→v8 q.2≠some o
structure oP(s0 s:AS)(X:AV)(T:List (ah×AV)):Prop where
  xs:TF s0 s T
  le:s0.le s
  row:ni 5 s X T.length (aK gq T)
  PJ:∀O,v8 X=some O→s0.aw O=none
  TG:∀O,v8 X=some O→∀p∈T,v8 p.2≠some O
theorem AS.le_none{s s':AS}(h:s.le s'){o:Nat}(k:s'.aw o=none):s.aw o=none:=by
  cases hs:s.aw o with
  |none=>rfl
  |some cs=>rw[h.aw _ _ hs] at k;cases k
theorem oP.nil(s:AS):oP s s bU []:=
  ⟨⟨fun p hp=>absurd hp (List.not_mem_nil),fun p hp=>absurd hp (List.not_mem_nil),.nil⟩,.refl s,.inl ⟨rfl,rfl,.inl rfl⟩,(fun O h=>by cases h),(fun O h=>by cases h)⟩
theorem oP.push{s0 s:AS}{X:AV}{T:List (ah×AV)}{p:ah×AV}{ob cap:Nat}{rest:List AV}(h:oP s0 s X T)(hb:ni 1 s p.2 p.1.iA.length (p.1.iA.map aJ))
    (h1:∀o,v8 p.2=some o→s0.aw o=none∧(∀q∈T,v8 q.2≠some o)∧v8 X≠some o) (h2:s.aw ob=none∨∃rR,X=.ig ob 0 5 T.length rR) (h3:T.length+1≤cap) (h4:cap<2^63) (h5:rest.length=(cap-(T.length+1))*5):
    oP s0 (s.set ob (aK gq T++gq p++rest)) (.ig ob 0 5 (T.length+1) cap) (T++[p]):=by
  have Zk:s0.aw ob=none:=by
    rcases h2 with h2|⟨rR,h2⟩
    · exact AS.le_none h.le h2
    · exact h.PJ ob (by rw[h2];rfl)
  have cY:∀q∈T++[p],v8 q.2≠some ob:=by
    intro q hq e;rw[List.mem_append,List.mem_singleton] at hq;rcases h2 with h2|⟨rR,h2⟩
    · have :∃ds,s.aw ob=some ds:=by
        rcases hq with hq|rfl
        · exact(h.xs.buf q hq).some e
        · exact hb.some e
      rw[h2] at this;obtain⟨ds,hd⟩:=this;cases hd
    · have hX:v8 X=some ob:=(by rw[h2];rfl);rcases hq with hq|rfl
      · exact h.TG ob hX q hq e
      · exact(h1 ob e).2.2 hX
  refine⟨⟨fun q hq=>?_,fun q hq o ho=>?_,?_⟩,AS.aF h.le Zk _,.inr ⟨ob,cap,rest,by rw[List.length_append];rfl,by rw[AS.af,Mf],?_,by rw[List.length_append];exact h5,by rw[List.length_append];exact h3,h4⟩,fun O hO=>?_,fun O hO q hq=>?_⟩
  · have LP:=hq;rw[List.mem_append,List.mem_singleton] at hq;rcases hq with hq|rfl
    · exact(h.xs.buf q hq).m6 (cY q LP)
    · exact hb.m6 (cY q LP)
  · rw[List.mem_append,List.mem_singleton] at hq;rcases hq with hq|rfl
    · exact h.xs.new q hq o ho
    · exact(h1 o ho).1
  · rw[List.pairwise_append];refine⟨h.xs.sep,List.pairwise_singleton _ _,fun a ha b KU o ho=>?_⟩;rw[List.mem_singleton] at KU;subst KU;intro e;exact(h1 o e).2.1 a ha ho
  · exact cj Hd _
  · cases hO;exact Zk
  · cases hO;exact cY q hq
theorem JP{s0:AS}{O:Nat}{rest:List AV}(Mb:s0.aw O=none)(x:AV):∀(B:List (ah×AV))(A:List ah)(s:AS),TF s0 s B→s0.le s→(∀p∈B,v8 p.2≠some O)→s.aw O=some (aK ah.cells A++aK gq B++rest)→
    ∃s',b8 Γ s x s' x∧s'.aw O=some (aK ah.cells (A++B.map (·.1))++rest)∧s0.le s':=by
  intro B;induction B with
  |nil=>
    intro A s _ hle _ hO;refine⟨s,.refl x,?_,hle⟩;simpa[aK] using hO
  |cons p B ih=>
    intro A s hx hle cY hO;have TH:aK ah.cells A++aK gq (p::B)++rest=(aK ah.cells A++[.v (.int .i64 p.1.kind),al p.1.name .any,.v (.int .u64 p.1.key),al p.1.parent .any])++p.2::(aK gq B++rest):=by
      simp[aK,gq]
    rw[TH] at hO;have RU:(aK ah.cells A++[.v (.int .i64 p.1.kind),al p.1.name .any,.v (.int .u64 p.1.key),al p.1.parent .any])++aG p.1.iA .any::(aK gq B++rest)=aK ah.cells (A++[p.1])++aK gq B++rest:=by
      simp[aK,ah.cells]
    have Zl:=List.pairwise_cons.1 hx.sep;have hp:p∈p::B:=List.mem_cons_self;have yF:∀s':AS,(∀q∈B,ni 1 s' q.2 q.1.iA.length (q.1.iA.map aJ))→TF s0 s' B:=fun s' h=>⟨h,fun q hq=>hx.new q (List.mem_cons_of_mem _ hq),Zl.2⟩;rcases hx.buf p hp with⟨h0,uA,hv⟩|⟨o,cap,rs,hv,ho,gw,uS,B3,B6⟩
    · have hw:p.2.aE (aG p.1.iA .any):=by
        have hu:p.1.iA=[]:=List.eq_nil_of_length_eq_zero h0;rw[hu];rcases hv with hv|hv|hv
        · rw[hv];exact AV.aM
        · rw[hv];exact yK (.inl rfl)
        · rw[hv];exact yK (.inr rfl)
      have h1:=b8.cells (Γ:=Γ) x hO hw;rw[RU] at h1;obtain⟨s',k1,k2,k3⟩:=ih (A++[p.1]) _ (yF _ fun q hq=>(hx.buf q (List.mem_cons_of_mem _ hq)).m6 (cY q (List.mem_cons_of_mem _ hq))) (AS.aF hle Mb _) (fun q hq=>cY q (List.mem_cons_of_mem _ hq)) (AS.af _ _ _);refine⟨s',h1.trans k1,?_,k3⟩;simpa using k2
    · have hpo:v8 p.2=some o:=(by rw[hv];rfl);have hOo:O≠o:=fun e=>cY p hp (by rw[hpo,e]);rw[hv] at hO;have h1:=b8.inner (Γ:=Γ) x hO ho hOo gw;have e:(AV.sl 1 p.1.iA.length (p.1.iA.map aJ) .any)=aG p.1.iA .any:=rfl;rw[e,RU] at h1;obtain⟨s',k1,k2,k3⟩:=ih (A++[p.1]) _ (yF _ fun q hq=>((hx.buf q (List.mem_cons_of_mem _ hq)).PI (Zl.1 q hq o hpo)).m6 (cY q (List.mem_cons_of_mem _ hq))) (AS.aF (AS.qj hle (hx.new p hp o hpo)) Mb _) (fun q hq=>cY q (List.mem_cons_of_mem _ hq)) (AS.af _ _ _);refine⟨s',h1.trans k1,?_,k3⟩;simpa using k2
open Go Go.RowKit Go.Shelf Go.Proofs
theorem aQ.drewN(h:aQ Γ G s w):∀q,aQ Γ G s (w.drewN q)
  |0=>h
  |q+1=>(aQ.drewN h q).drew
open Go Go.RowKit Go.Shelf Go.Proofs Go.Sort
theorem aQ.grow(h:aQ Γ G s w)(os:Array Obj):aQ Γ G s (Go.Sort.grow w os):=by
  refine h.ext ?_;exact(Below.refl _ _).grown (row:=none) ⟨rfl,rfl,rfl,by simp,fun i hi _=>by simp[Go.Sort.grow,Array.getElem?_append,hi]⟩ (Nat.le_refl _) (fun i e=>by cases e)
theorem He{ρ:Ren}(L:Lays.n189 P ρ){o cap:Nat}{l:List Int}{rest:List AV}(hl:l.length<4611686018427387904)(ho:s.aw o=some (l.map aJ++rest)):
    aj P Γ (ρ.f 189) [.ig o 0 1 l.length cap] s (fun r s'=>r=.v (.tuple #[])∧s'=s.set o ((l.mergeSort fun x y=>decide (x≤y)).map aJ++rest)):=by
  intro G w vs hsr hv;simp only[ar] at hv;obtain⟨u,us,rfl,hx,rfl⟩:=hv;simp only[av] at hx;obtain⟨b,Ci,rfl,hn⟩:=hx;obtain⟨b',vs,q1,q2,q3,q4⟩:=hsr.aw o _ ho;rw[Ci] at q1;cases q1;have hvt:=q2.take (l.map aJ).length;rw[List.take_left] at hvt;have hvt:=ar.Ih hvt;have hH:Holds (Value.int .i64) w b 0 l.toArray:=by
    intro j hj;have kg:j<l.length:=(by simpa using hj);rw[Nat.zero_add];have :vs[j]? =some (Value.int .i64 l.toArray[j]!):=by
      have h1:(vs.take (l.map aJ).length)[j]? =some (GL l[j]):=(by rw[hvt];simp[kg]);rw[List.getElem?_take] at h1;split at h1
      · rw[h1];simp[GL,kg]
      · cases h1
    exact⟨(q4 j _ this).1,(q4 j _ this).2.1⟩
  refine(calls_of_every_depth fun D=>AnyS.slices_Sort_int_in L D b 0 cap l w hH (hsr.cX o b Ci) hl).mono ?_;rintro e w' ⟨rfl,n,os,rfl⟩;rw[Go.Lib.putRow_eq_setCells (Value.int .i64) w b 0 l.toArray _ n hH (by simp)];have sO:(l.mergeSort fun x y=>decide (x≤y)).length=l.length:=(by simp);generalize (l.mergeSort fun x y=>decide (x≤y))=m at sO⊢;obtain⟨_,_,f3⟩:=lg (hsr.drewN n) ho Ci (off:=0) (ds:=m.map aJ) (us:=m.map GL) (by simp;omega) (ar.ints _);have ha:=pK (m.map aJ) [] (l.map aJ++rest) (by simp;omega);simp only[List.nil_append,List.length_nil,List.length_map,sO] at ha;rw[show(l.map aJ++rest).drop l.length=rest by rw[List.drop_append_of_le_length (by simp)];simp] at ha;rw[ha] at f3;exact⟨G,.v (.tuple #[]),_,_,rfl,.refl G,aQ.grow f3 os,by simp[av],rfl,rfl⟩
end Go.AM
namespace Go.Proofs.YtbiefppedlodiaaGreatDoor
open Go Go.AM Go.Proofs Tryz
variable{Γ:Nat→List AV}
def xcU:Go.Shelf.Ren:=⟨fun |125=>194|128=>229|129=>230|189=>159|215=>248|216=>226|257=>193|294=>220|295=>221|296=>222|297=>223|298=>224|299=>225|300=>227|301=>228|328=>243|329=>244|330=>245|331=>246|332=>247|343=>254|n=>n,fun |28=>24|46=>185|51=>214|53=>29|131=>119|182=>239|183=>240|218=>257|222=>260|228=>266|229=>58|n=>n,fun n=>n⟩
theorem Zm:Lays.n189 prog xcU where
  mixed:=by kernel_rfl
  f125:=(func194).trans (congrArg some (by kernel_rfl))
  f128:=(func229).trans (congrArg some (by kernel_rfl))
  f129:=(func230).trans (congrArg some (by kernel_rfl))
  f189:=(func159).trans (congrArg some (by kernel_rfl))
  f215:=(func248).trans (congrArg some (by kernel_rfl))
  f216:=(func226).trans (congrArg some (by kernel_rfl))
  f257:=(func193).trans (congrArg some (by kernel_rfl))
  f294:=(func220).trans (congrArg some (by kernel_rfl))
  f295:=(func221).trans (congrArg some (by kernel_rfl))
  f296:=(func222).trans (congrArg some (by kernel_rfl))
  f297:=(func223).trans (congrArg some (by kernel_rfl))
  f298:=(func224).trans (congrArg some (by kernel_rfl))
  f299:=(func225).trans (congrArg some (by kernel_rfl))
  f300:=(func227).trans (congrArg some (by kernel_rfl))
  f301:=(func228).trans (congrArg some (by kernel_rfl))
  f328:=(func243).trans (congrArg some (by kernel_rfl))
  f329:=(func244).trans (congrArg some (by kernel_rfl))
  f330:=(func245).trans (congrArg some (by kernel_rfl))
  f331:=(func246).trans (congrArg some (by kernel_rfl))
  f332:=(func247).trans (congrArg some (by kernel_rfl))
  f343:=(func254).trans (congrArg some (by kernel_rfl))
  t0:=underlying0
  a0:=isAgg0
  z0:=sizeOf0
  v0:=zeroValue0
  t3:=underlying3
  a3:=isAgg3
  z3:=sizeOf3
  v3:=zeroValue3
  t4:=underlying4
  a4:=isAgg4
  z4:=sizeOf4
  v4:=zeroValue4
  t5:=underlying5
  a5:=isAgg5
  z5:=sizeOf5
  v5:=zeroValue5
  t9:=underlying9
  a9:=isAgg9
  z9:=sizeOf9
  v9:=zeroValue9
  t28:=underlying24
  a28:=isAgg24
  z28:=sizeOf24
  v28:=zeroValue24
  t46:=underlying185
  a46:=isAgg185
  z46:=sizeOf185
  v46:=zeroValue185
  t51:=underlying214
  a51:=isAgg214
  z51:=sizeOf214
  v51:=zeroValue214
  t53:=underlying29
  a53:=isAgg29
  z53:=sizeOf29
  v53:=zeroValue29
  t131:=underlying119
  a131:=isAgg119
  z131:=sizeOf119
  v131:=zeroValue119
  t182:=underlying239
  a182:=isAgg239
  z182:=sizeOf239
  v182:=zeroValue239
  t183:=underlying240
  a183:=isAgg240
  z183:=sizeOf240
  v183:=zeroValue240
  t218:=underlying257
  a218:=isAgg257
  z218:=sizeOf257
  v218:=zeroValue257
  t222:=underlying260
  a222:=isAgg260
  z222:=sizeOf260
  v222:=zeroValue260
  t228:=underlying266
  a228:=isAgg266
  z228:=sizeOf266
  v228:=zeroValue266
  t229:=underlying58
  a229:=isAgg58
  z229:=sizeOf58
  v229:=zeroValue58
theorem Mi{o cap:Nat}{l:List Int}{rest:List AV}{s:AS}(hl:l.length<4611686018427387904)(ho:s.aw o=some (l.map aJ++rest)):
    aj prog Γ 159 [.ig o 0 1 l.length cap] s (fun r s'=>r=.v (.tuple #[])∧s'=s.set o ((l.mergeSort fun x y=>decide (x≤y)).map aJ++rest)):=
  He Zm hl ho
def PK(s s':AS)(r:AV)(l:List Int):Prop:=ni 1 s' r l.length (l.map aJ)∧(l=[]→r=bU)∧(∀o,v8 r=some o→s.aw o=none)∧s.le s'
def xcV(s:AS)(o1:Nat)(l:List Int)(s':AS):Prop:=∃x,s'.aw o1=some [x]∧PK s s' x l∧v8 x≠some o1
theorem wN{gf:FuncId}{cg:List AV}{l:List Int}(H3:ai prog gf=true)(Kk:vT prog Γ gf cg (l.map fun v=>[aJ v]))(hl:l.length≤2^40)(s:AS):
  aj prog Γ 192 [bU,.qE gf cg] s (fun r s'=>PK s s' r l):=by
 refine yi func192 rfl ntmps192 results192 (by simp) ?_;unfold bU;refine qv ?_;intro K hK;refine jM ?_;intro o1 h1;refine hK _ _ ?_;clear hK K;refine rh (by decide) ?_;intro K hK;refine jR hK ?_;clear hK K;refine⟨gf,cg,l.map fun v=>[aJ v],fun i s'=>xcV s o1 (l.take i) s',by simp only[aN,aB,bx,List.getD_cons_zero,List.getD_cons_succ,Nc,↓reduceIte],H3,Kk,by simp,?_,?_,?_⟩
 ·refine⟨bU,by simp[AS.set,bU],⟨.inl ⟨by simp,by simp,.inl rfl⟩,fun _=>rfl,by simp[bU,v8],AS.aF (AS.le.refl s) h1 _⟩,by simp[bU,v8]⟩
 ·rintro i x s1 hx ⟨b,Ci,⟨qK,sW,lI,hle⟩,cY⟩;obtain⟨v,hv,rfl⟩:∃v,l[i]? =some v∧x=[aJ v]:=by
   rw[List.getElem?_map] at hx;cases hh:l[i]? with
   |none=>rw[hh] at hx;cases hx
   |some v=>rw[hh] at hx;cases hx;exact⟨v,rfl,rfl⟩
  have hi:i<l.length:=(List.getElem?_eq_some_iff.1 hv).1;have hlen:(l.take i).length=i:=(by simp;omega);have kG:b.one=true:=by
   rcases qK with⟨_,_,rfl|rfl|rfl⟩|⟨_,_,_,rfl,_⟩<;>rfl
  simp only[zW];refine jC ?_;refine⟨rfl,ag ?_⟩;refine oH rfl (by decide) ?_;intro ops;refine jN @Ci ?_;rw[hlen] at qK;refine⟨_,fun G a w hr=>iz (n:=i) (m:=1) (cs:=(l.take i).map aJ) (ds:=[aJ v]) (e:=3) (z:=[.v (.int .i64 0)]) rfl underlying24 (by simp only[↓DN,Qa,Qb,Qc,Qd,Qe,Qf,Qg,Qh,reduceCtorEq,↓reduceIte,Na,Nb,Nc,Nk,Nf,Ng,Nh,Za,Zb,Zc,TT];try rfl) (by simp only[↓DN,Qa,Qb,Qc,Qd,Qe,Qf,Qg,Qh,reduceCtorEq,↓reduceIte,Na,Nb,Nc,Nk,Nf,Ng,Nh,Za,Zb,Zc,TT];try rfl) (by rw[T.c3];decide) (by rw[T.c3];rfl) (by rw[T.c3];simp only[↓DN,Qa,Qb,Qc,Qd,Qe,Qf,Qg,Qh,reduceCtorEq,↓reduceIte,Na,Nb,Nc,Nk,Nf,Ng,Nh,Za,Zb,Zc,TT,im,aN,aB,Nc,↓reduceIte];rfl) (by decide) (by rw[T.b3];omega) (by omega) rfl (by rw[T.c3];simpa only[aN,aB,Nc,↓reduceIte] using qK) hr.eval hr.st,?_⟩;rw[T.c3];rintro r s4 ⟨ob,cap,rest,rfl,gB,B6,uS,TI,rfl⟩;simp only[aN,aB,Nc,↓reduceIte] at TI;have TJ:o1≠ob:=by
   rintro rfl;rcases TI with h|⟨rR,rfl⟩
   ·rw[Ci] at h;cases h
   ·exact cY rfl
  have RV:s.aw ob=none:=by
   rcases TI with h|⟨rR,rfl⟩
   ·exact AS.le_none hle h
   ·exact lI ob rfl
  have eo:(l.take i).map aJ++[aJ v]=(l.take (i+1)).map aJ:=by
   rw[List.take_add_one,hv];simp
  rw[eo];have hso:(s1.set ob ((l.take (i+1)).map aJ++rest)).aw o1=some [b]:=by
   rw[AS.ao _ TJ];exact Ci
  refine jN @hso ?_;refine⟨_,AS.af _ _ _,⟨.inr ⟨ob,cap,rest,by rw[show(l.take (i+1)).length=i+1 by simp;omega],?_,by simp,by rw[show(l.take (i+1)).length=i+1 by simp;omega];exact uS,by rw[show(l.take (i+1)).length=i+1 by simp;omega];exact gB,B6⟩,?_,?_,AS.aF (AS.aF hle RV _) h1 _⟩,?_⟩
  ·rw[AS.ao _ TJ.symm,AS.af]
  ·intro h;have:=congrArg List.length h;rw[List.length_take,List.length_nil] at this;omega
  ·intro o h;simp only[v8,Option.some.injEq] at h;rw[←h];exact RV
  ·simp only[v8,ne_eq,Option.some.injEq];exact TJ.symm
 ·rintro s2 ⟨x,hx1,UF,-⟩;rw[List.length_map,List.take_length] at UF;refine jB @hx1 ?_;refine jI ?_;exact⟨_,_,AV.aE.refl _,AS.le.refl _,UF⟩
theorem Ak{gf:FuncId}{cg:List AV}{l:List Int}(H3:ai prog gf=true)(Kk:vT prog Γ gf cg (l.map fun v=>[aJ v]))(hl:l.length≤2^40)(s:AS):
  aj prog Γ 158 [.qE gf cg] s (fun r s'=>PK s s' r l):=by
 refine aa func158 rfl ntmps158 results158 (by simp) ?_;refine jA ?_;refine jQ fun K hK=>?_;refine ad (wN H3 Kk hl _) ?_;rintro r s2 h2;refine jR hK ?_;clear hK K;refine jI ?_;exact⟨_,_,AV.aE.refl _,AS.le.refl _,h2⟩
theorem yL(s:AS):aj prog Γ 230 [.v (.int .u64 0)] s (fun r s'=>(∃k:Int,r=.v (.int .i64 k))∧s'=s):=by
 refine aa func230 rfl ntmps230 results230 (by simp) ?_;refine jA ?_;refine wK fun K hK=>?_;refine jA ?_;refine jF ?_;refine ab ?_;refine hK _ _ ?_;clear hK K;refine wK fun K hK=>?_;refine jA ?_;refine jF ?_;refine ab ?_;refine hK _ _ ?_;clear hK K;refine wK fun K hK=>?_;refine jA ?_;refine jF ?_;refine ab ?_;refine hK _ _ ?_;clear hK K;refine jA ?_;refine jI ?_;exact⟨_,_,AV.aE.refl _,AS.le.refl _,⟨_,rfl⟩,rfl⟩
theorem CW(s:AS):aj prog Γ 194 [.v (.int .u64 0)] s (fun r s'=>(∃k:Int,r=.v (.int .i64 k))∧s'=s):=by
 refine aa func194 rfl ntmps194 results194 (by simp) ?_;refine jA ?_;refine wK fun K hK=>?_;refine jF ?_;refine ab ?_;refine hK _ _ ?_;clear hK K;refine jQ fun K hK=>?_;refine ad (yL _) ?_;rintro r s2 ⟨⟨k,rfl⟩,rfl⟩;refine jR hK ?_;clear hK K;refine jI ?_;exact⟨_,_,AV.aE.refl _,AS.le.refl _,⟨_,rfl⟩,rfl⟩
theorem CX(s:AS):aj prog Γ 220 [bU,.v (.int .i64 0),.v (.int .i64 0)] s (fun r s'=>r=.eu []∧s'=s):=by
 refine aa func220 rfl ntmps220 results220 (by simp) ?_;refine jA ?_;refine ag ?_;refine aD (fun E s'=>E 2=.v (.int .i64 0)∧E 6=.v (.int .i64 1)∧s'=s) (fun _ _=>0) ⟨rfl,rfl,rfl⟩ ?_;rintro E s' ⟨e2,e6,rfl⟩ -
 refine wK fun K2 aU=>?_;refine jB (Ai @e2 @e6) ?_;refine jF ?_;refine aC ?_;simp only[aA,aq,if_true];simp only[ck,bz,bF,dm,List.toList_toArray,↓bg];try simp only[UP,DF,Nc,↓reduceIte,DT]
 exact jW ⟨rfl,rfl⟩
theorem CY(k:Int)(s:AS):aj prog Γ 193 [bU,.v (.int .i64 0),.v (.int .i64 0),.v (.int .i64 k)] s (fun r s'=>r=.eu []∧s'=s):=by
 refine aa func193 rfl ntmps193 results193 (by simp) ?_;unfold bU;refine jA ?_;refine jA ?_;refine ag ?_;refine aD (fun E s'=>E 0=.v (.slice none 0 0)∧E 1=.v (.int .i64 0)∧E 2=.v (.int .i64 0)∧s'=s) (fun _ _=>0) ⟨rfl,rfl,rfl,rfl⟩ ?_;rintro E s' ⟨e0,e1,e2,rfl⟩ -
 refine ag ?_;refine jB (Ai @e1 @e2) ?_;refine wK fun K2 aU=>?_;refine jB (Ai (show dr .i64 0 0=(0:Int) from rfl) (show(decide ((0:Int)≤12))=true from rfl)) ?_;refine jE ?_;refine jS (Ai @e0 (Ai @e1 @e2)) fun K hK=>?_;refine ad (CX _) ?_;rintro r s2 ⟨rfl,rfl⟩;refine jR hK ?_;clear hK K;refine a7 ?_;simp only[aA,aq];simp only[ck,bz,bF,dm,List.toList_toArray,↓bg];try simp only[UP,DF,Nc,↓reduceIte,DT]
 exact jW ⟨rfl,rfl⟩
theorem Al(s:AS):aj prog Γ 159 [bU] s (fun r s'=>r=.eu []∧s'=s):=by
 refine aa func159 rfl ntmps159 results159 (by simp) ?_;unfold bU;refine jA ?_;refine jT fun K hK=>?_;refine ad (CW _) ?_;rintro r s2 ⟨⟨k,rfl⟩,rfl⟩;refine jM ?_;refine ad (CY k _) ?_;rintro r s3 ⟨rfl,rfl⟩;refine jR hK ?_;clear hK K;simp only[ck,bz,bF,dm,List.toList_toArray,↓bg];try simp only[UP,DF,Nc,↓reduceIte,DT]
 exact jW ⟨rfl,rfl⟩
theorem CZ{gf:FuncId}{cg:List AV}{l:List Int}(H3:ai prog gf=true)(Kk:vT prog Γ gf cg (l.map fun v=>[aJ v]))(hl:l.length≤2^40)(s:AS):
  aj prog Γ 111 [.qE gf cg] s (fun r s'=>PK s s' r (l.mergeSort fun x y=>decide (x≤y))):=by
 refine aa func111 rfl ntmps111 results111 (by simp) ?_;refine jA ?_;refine jQ fun K hK=>?_;refine ad (Ak H3 Kk hl _) ?_;rintro r s2 ⟨qK,sW,lI,hle⟩;rcases List.eq_nil_or_concat l with rfl|⟨l',v,F2⟩
 ·obtain rfl:=sW rfl;refine jR hK ?_;clear hK K;refine jK (Al _) ?_;rintro s3 rfl;refine jA ?_;refine jI ?_;exact jW ⟨by simpa using qK,fun _=>rfl,lI,hle⟩
 ·have wB:0<l.length:=(by rw[F2];simp);have sO:(l.mergeSort fun x y=>decide (x≤y)).length=l.length:=(by simp);rcases qK with⟨h0,_,_⟩|⟨o,cap,rest,rfl,ho,gw,uS,B3,B6⟩
  ·omega
  ·refine jR hK ?_;clear hK K;refine jK (Mi (by omega) ho) ?_;rintro s3 rfl;refine jA ?_;refine jI ?_;have hn:s.aw o=none:=lI o rfl;refine⟨_,_,AV.aE.refl _,AS.le.refl _,.inr ⟨o,cap,rest,by rw[sO],AS.af _ _ _,by simp,by rw[sO];exact uS,by rw[sO];exact B3,B6⟩,?_,lI,AS.aF hle hn _⟩;intro h;rw[h] at sO;simp only[List.length_nil] at sO;omega
end Go.Proofs.YtbiefppedlodiaaGreatDoor
namespace Go.AM
open Go Go.RowKit
def kN(n l:Nat):List Nat:=(dT 6 n l).reverse++[n]
def lq(n l:Nat):Nat→Nat×Nat
  |0=>(0,2*l-2)
  |j+1=>let s:=lq n l j;let oY:=(s.1+s.2)/2;if n<oY then(s.1,oY-1) else(oY+1,s.2)
theorem Hf{n l:Nat}(hl:Fit l)(h:n<2*l-1){j:Nat}(hj:j<(kN n l).length):
    (kN n l)[j]? =some (((lq n l j).1+(lq n l j).2)/2)∧(j+1=(kN n l).length↔n=((lq n l j).1+(lq n l j).2)/2)∧(lq n l j).1+(lq n l j).2≤200:=by
  obtain⟨m,hm,rfl⟩:=hl.pow;exact(by decide+kernel:∀m≤5,∀n<2*2^m-1,∀j<(kN n (2^m)).length,(kN n (2^m))[j]? =some (((lq n (2^m) j).1+(lq n (2^m) j).2)/2)∧(j+1=(kN n (2^m)).length↔n=((lq n (2^m) j).1+(lq n (2^m) j).2)/2)∧(lq n (2^m) j).1+(lq n (2^m) j).2≤200) m hm n h j hj
theorem Fg{n l:Nat}(hl:Fit l)(h:n<2*l-1):(kN n l).length≤6∧(n≠l-1→2≤(kN n l).length∧(kN n l)[(kN n l).length-2]? =some (oI n)):=by
  obtain⟨m,hm,rfl⟩:=hl.pow;exact(by decide+kernel:∀m≤5,∀n<2*2^m-1,(kN n (2^m)).length≤6∧(n≠2^m-1→2≤(kN n (2^m)).length∧(kN n (2^m))[(kN n (2^m)).length-2]? =some (oI n))) m hm n h
def bY(n:Nat):Nat:=if n<oI n then oI n+hf (oI n) else oI n-hf (oI n)
theorem u7{n l:Nat}(hl:Fit l)(h:n<2*l-1)(hr:n≠l-1):oI n<63∧lv (oI n)≠0∧hf (oI n)≤oI n∧(n<oI n↔oI n-hf (oI n)=n)∧bY n<2*l-1:=by
  obtain⟨m,hm,rfl⟩:=hl.pow;exact((by decide+kernel:∀m≤5,∀n<2*2^m-1,n=2^m-1∨(oI n<63∧lv (oI n)≠0∧hf (oI n)≤oI n∧(n<oI n↔oI n-hf (oI n)=n)∧bY n<2*2^m-1)) m hm n h).resolve_left hr
theorem Fh{u:Nat}(hu:u<63)(h0:lv u≠0)(hh:hf u≤u):gi (u:Int)=some (((u-hf u:Nat):Int),((u+hf u:Nat):Int)):=by
  unfold gi;rw[eS hu,if_neg h0];simp only[hf] at hh⊢;simp only[Option.some.injEq,Prod.mk.injEq];omega
theorem pZ{leaf l:Nat}(hl:Fit l)(h:leaf<l){i:Nat}(hi:i<(az leaf l).length):nodeAt leaf l i<2*l-1∧nodeAt leaf l i≠l-1∧oI (nodeAt leaf l i)=(az leaf l).getD i 0:=by
  obtain⟨m,hm,rfl⟩:=hl.pow;exact(by decide+kernel:∀m≤5,∀leaf<2^m,∀i<(az leaf (2^m)).length,nodeAt leaf (2^m) i<2*2^m-1∧nodeAt leaf (2^m) i≠2^m-1∧oI (nodeAt leaf (2^m) i)=(az leaf (2^m)).getD i 0) m hm leaf h i hi
def cQ(leaf l:Nat):List Nat:=(List.range (az leaf l).length).map fun i=>bY (nodeAt leaf l i)
end Go.AM
namespace Go.Proofs.YtbiefppedlodiaaGreatDoor
open Go Go.AM Go.Proofs Tryz
variable{Γ:Nat→List AV}
theorem C0(n l:Nat)(hl:Fit l)(hn:n<2*l-1)(s:AS):aj prog Γ 116 [.v (.int .i64 ((n:Nat):Int)),.v (.int .i64 l)] s
  (fun r s'=>r=aG (aP (kN n l)) .any∧s'=s):=by
 refine aa func116 rfl ntmps116 results116 (by simp) ?_;have F2:=hl.le;have uX:=(Fg hl hn).1;have KB:0<(kN n l).length:=(by simp[kN]);have gS:=fun(i:Nat)(h:i<(kN n l).length)=>Hf hl hn h;have mu:lq n l 0=(0,2*l-2):=rfl;have gV:∀j,lq n l (j+1)=(if n<((lq n l j).1+(lq n l j).2)/2 then((lq n l j).1,((lq n l j).1+(lq n l j).2)/2-1) else(((lq n l j).1+(lq n l j).2)/2+1,(lq n l j).2)):=fun j=>rfl;generalize kN n l=P at *
 generalize lq n l=S at *
 refine jA ?_;refine jA ?_;have e0:dr .i64 (ia .i64 2 (l:Int)) 2=((2*l-2:Nat):Int):=(by rw[bZ l (by omega),bO (by omega)];omega);refine jB @e0 ?_;refine ag ?_;refine aD (fun E s2=>∃(i:Nat)(x:AV),i<P.length∧E 6=.v (.int .i64 ((S i).1:Nat))∧E 7=.v (.int .i64 ((S i).2:Nat))∧E 0=.v (.int .i64 ((n:Nat):Int))∧E 5=x∧cZ 1 s s2 x i ((aP (P.take i)).map aJ)∧s.le s2)
  (fun E _=>P.length+1-lW (E 5)) ?_ ?_
 ·refine⟨0,_,KB,?_,?_,rfl,rfl,cZ.nil _ _ _,AS.le.refl _⟩
  ·rw[mu];simp only[aB,Nc,↓reduceIte];rfl
  ·rw[mu];simp only[aB,Nc,↓reduceIte]
 ·rintro E1 s2 ⟨i,x,hi,g6,g7,g0,g5,hx,hle⟩ -
  refine ag ?_;obtain⟨w1,w2,w3⟩:=gS i hi;obtain⟨oY,Ly⟩:∃m,m=((S i).1+(S i).2)/2:=⟨_,rfl⟩;have rW:=gV i;rw[←Ly] at w1 w2 rW;have e1:kX .i64 (dQ .i64 (((S i).1:Nat):Int) (((S i).2:Nat):Int)) 2=(oY:Int):=by
   rw[ec (by omega),show(((S i).1:Nat):Int)+(((S i).2:Nat):Int)=(((S i).1+(S i).2:Nat):Int) by omega,dL _ (by omega),Ly]
  refine jB (Ai @g6 (Ai @g7 @e1)) ?_;have eo:aP (P.take (i+1))=aP (P.take i)++[(oY:Int)]:=by
   unfold aP;rw[List.take_succ_eq_append_getElem hi,List.map_append];rw[List.getElem?_eq_getElem hi] at w1;rw[Option.some.inj w1];rfl
  refine wK fun K3 bq=>?_;have bX:∀(E:Env)(s3:AS)(x3:AV),E 0=.v (.int .i64 ((n:Nat):Int))→E 6=.v (.int .i64 ((S i).1:Nat))→E 7=.v (.int .i64 ((S i).2:Nat))→E 8=.v (.int .i64 oY)→E 5=x3→cZ 1 s s3 x3 (i+1) ((aP (P.take (i+1))).map aJ)→s.le s3→K3 E s3:=by
   intro E s3 x3 f0 f6 f7 f8 f5 fx zZ;refine bq _ _ ?_;clear bq K3;refine wK fun K4 dM=>?_;by_cases he:n=oY
   ·have N3:=w2.2 he;refine jB (Ai @f0 @f8) ?_;refine wC fun X Y hX hY=>?_;refine jP (Ai @DB (lU (show((n:Nat):Int)=(oY:Int) by omega))) ?_;refine hX ?_;clear hX hY X Y;rw[N3,List.take_of_length_le (Nat.le_refl _)] at fx;have hw:=fx.aE;refine jB @f5 ?_;refine jI ?_;refine⟨_,_,?_,zZ,rfl,rfl⟩;have F3:=br P;unfold aG;rw[F3];exact hw
   ·have N3:i+1<P.length:=by
     have:=mt w2.1 he;omega
    refine jB (Ai @f0 @f8) ?_;refine wC fun X Y hX hY=>?_;refine jP (Ai @DB (ko (show ¬((n:Nat):Int)=(oY:Int) by omega))) ?_;refine hY ?_;clear hX hY X Y;refine ab ?_;refine dM _ _ ?_;clear dM K4;have m1:lW (E1 5)=i:=by
     rw[g5];rcases hx with⟨rfl,rfl,_⟩|⟨t,e,rfl,_⟩<;>rfl
    have m2:lW (E 5)=i+1:=by
     rw[f5];rcases fx with⟨rfl,h,_⟩|⟨t,e,rfl,_⟩
     ·omega
     ·rfl
    by_cases bJ:n<oY
    ·rw[if_pos bJ] at rW;have e2:dr .i64 (oY:Int) 1=((oY-1:Nat):Int):=(by rw[bO (by omega)];omega);refine jB (Ai @f0 @f8) ?_;refine wC fun X Y hX hY=>?_;refine jP (Ai @DB (Ai (eq_true (show((n:Nat):Int)<(oY:Int) by omega)) @not_true_eq_false)) ?_;refine hX ?_;clear hX hY X Y;refine jD (Ai @f8 @e2) ?_;refine⟨⟨i+1,x3,N3,?_,?_,f0,f5,fx,zZ⟩,?_⟩
     ·rw[rW];simp only[aB,f6,Nc,↓reduceIte]
     ·rw[rW];simp only[aB,Nc,↓reduceIte]
     ·simp only[aB,Nc,↓reduceIte,m1,m2];omega
    ·rw[if_neg bJ] at rW;refine jB (Ai @f0 @f8) ?_;refine wC fun X Y hX hY=>?_;refine jP (Ai @DB (Ai (eq_false (show ¬((n:Nat):Int)<(oY:Int) by omega)) @not_false_eq_true)) ?_;refine hY ?_;clear hX hY X Y;refine jD (Ai @f8 (eG oY (by omega))) ?_;refine⟨⟨i+1,x3,N3,?_,?_,f0,f5,fx,zZ⟩,?_⟩
     ·rw[rW];simp only[aB,Nc,↓reduceIte]
     ·rw[rW];simp only[aB,f7,Nc,↓reduceIte]
     ·simp only[aB,Nc,↓reduceIte,m1,m2];omega
  clear bq;rcases hx with⟨rfl,fD,sF⟩|⟨t,e,rfl,ht,iG⟩
  ·refine wE fun K hK=>?_;simp only[↓DN,Qa,Qb,Qc,Qd,Qe,Qf,Qg,Qh,reduceCtorEq,↓reduceIte,Na,Nb,Nc,Nk,Nf,Ng,Nh,Za,Zb,Zc,TT,g5,bU,List.replicate_succ];intro t ht;refine hK _ _ (bX _ _ (.sl 1 1 [.v (.int .i64 (oY:Int))] (.own t 0)) g0 g6 g7 rfl rfl ?_ ?_)
   ·refine .inr ⟨t,0,?_,by simp[AS.bA],aZ hle ht⟩;rw[eo,List.map_append,sF];subst fD;rfl
   ·exact AS.bn hle (aZ hle ht) 0
  ·refine wE fun K hK=>?_;simp only[↓DN,Qa,Qb,Qc,Qd,Qe,Qf,Qg,Qh,reduceCtorEq,↓reduceIte,Na,Nb,Nc,Nk,Nf,Ng,Nh,Za,Zb,Zc,TT,g5,ht,List.replicate_succ];have F3:(aP (P.take i)).length=i:=(by rw[br,List.length_take];omega);refine⟨by omega,by omega,hK _ _ (bX _ _ (.sl 1 (i+1) ((aP (P.take i)).map aJ++[.v (.int .i64 (oY:Int))]) (.own t (e+1))) g0 g6 g7 rfl rfl ?_ ?_)⟩
   ·exact .inr ⟨t,e+1,by rw[eo,List.map_append];rfl,by simp[AS.bA],iG⟩
   ·exact AS.bn hle iG (e+1)
theorem vi(n l:Nat)(hl:Fit l)(hn:n<2*l-1)(hr:n≠l-1)(s:AS):aj prog Γ 127 [.v (.int .i64 n),.v (.int .i64 l)] s
  (fun r s'=>r=.eu [.v (.int .i64 ((oI n:Nat):Int)),.v (.bool true)]∧s'=s):=by
 refine aa func127 rfl ntmps127 results127 (by simp) ?_;have F2:=hl.le;have hf:decide (rU (l:Int))=true:=decide_eq_true (np.2 hl);have h1:decide ((n:Int)<0)=false:=decide_eq_false (by omega);have e2:dr .i64 (ia .i64 2 (l:Int)) 2=((2*l-2:Nat):Int):=(by rw[bZ l (by omega),bO (by omega)];omega);have h2:decide (((2*l-2:Nat):Int)<(n:Int))=false:=decide_eq_false (by omega);have e3:dr .i64 (l:Int) 1=((l-1:Nat):Int):=(by rw[bO (by omega)];omega);have h3:((n:Int)==((l-1:Nat):Int))=false:=(by simp;omega);obtain⟨H4,hw2⟩:=Fg hl hn;obtain⟨Q9,hw4⟩:=hw2 hr;have Te:=fun s=>C0 (Γ:=Γ) n l hl hn s;have LA:(aP (kN n l)).length=(kN n l).length:=br _;have hWg:(aP (kN n l))[(kN n l).length-2]? =some ((oI n:Nat):Int):=by
  unfold aP;rw[List.getElem?_map,hw4];rfl
 generalize aP (kN n l)=W at *
 generalize (kN n l).length=k at *
 refine jA ?_;refine wK fun K hK=>?_;refine jQ fun K hK=>?_;refine ad (oK l _) ?_;rintro r s1 ⟨rfl,rfl⟩;rw[hf];refine jV (Ai @h1 (Ai @e2 (Ai @h2 (Ai @e3 @h3)))) hK ?_;clear hK K;refine jF ?_;refine ab ?_;refine hK _ _ ?_;clear hK K;refine jK (Te _) ?_;rintro s2 rfl;have e4:dr .i64 (W.length:Int) 2=((k-2:Nat):Int):=(by rw[bO (by omega)];omega);have bJ:(((k-2:Nat):Int)<(W.length:Int)):=(by omega);have h0:(0:Int)≤((k-2:Nat):Int):=(by omega);have fA:(List.take 1 (List.drop (k-2) (W.map aJ)))[0]? =some (aJ ((oI n:Nat):Int)):=by
  simp[List.getElem?_take,hWg]
 refine jB (Ai @aG.eq_1 (Ai @e4 (Ai @bJ (Ai @h0 @fA)))) ?_;exact jJ
theorem tO(n l:Nat)(hl:Fit l)(hn:n<2*l-1)(hr:n≠l-1)(s:AS):aj prog Γ 69 [.v (.int .i64 n),.v (.int .i64 l)] s
  (fun r s'=>r=.eu [.v (.int .i64 ((bY n:Nat):Int)),.v (.bool true)]∧s'=s):=by
 refine aa func69 rfl ntmps69 results69 (by simp) ?_;have F2:=hl.le;obtain⟨u1,u2,u3,u4,u5⟩:=u7 hl hn hr;have zF:=fun s=>vi (Γ:=Γ) n l hl hn hr s;have JB:=fun s=>dY (Γ:=Γ) (oI n:Int) (by omega) s;rw[Fh u1 u2 u3] at JB;unfold bY;generalize oI n=u at *
 refine jA ?_;refine jK (zF _) ?_;rintro s1 rfl;refine wK fun K hK=>?_;refine jA ?_;refine jF ?_;refine ab ?_;refine hK _ _ ?_;clear hK K;refine jK (JB _) ?_;rintro s2 rfl;refine wK fun K hK=>?_;by_cases h:n<u
 ·have h':=u4.1 h;have e:(((u-hf u:Nat):Int)==(n:Int))=true:=(by simp;omega);refine jB @e ?_;refine jE ?_;refine jA ?_;rw[if_pos h];exact jJ
 ·have h':=mt u4.2 h;have e:(((u-hf u:Nat):Int)==(n:Int))=false:=(by simp;omega);refine jB @e ?_;refine jF ?_;refine ab ?_;refine hK _ _ ?_;clear hK K;refine jA ?_;rw[if_neg h];exact jJ
theorem yM(hG:Γ 3=fi.map oJ)(n l:Nat)(hl:Fit l)(hn:n<2*l-1)(hr:n≠l-1)(s:AS):aj prog Γ 105 [.v (.int .i64 n),.v (.int .i64 l)] s
  (fun r s'=>r=.eu [.v (.int .i64 ((bY n:Nat):Int)),.v (.bool true)]∧s'=s):=by
 refine aa func105 rfl ntmps105 results105 (by simp) ?_;have F2:=hl.le;obtain⟨u1,u2,u3,u4,u5⟩:=u7 hl hn hr;have zF:=fun s=>mU (Γ:=Γ) hG n l hl hn s;rw[show rV n l=some (oI n) from if_neg hr] at zF;simp only[Option.getD_some,Option.isSome_some] at zF;have p8:=fun s=>mT (Γ:=Γ) hG (oI n:Int) (by omega) s;have hle:=fun s=>iE (Γ:=Γ) hG (oI n:Int) (by omega) s;rw[Fh u1 u2 u3] at p8 hle;unfold bY;generalize oI n=u at *
 refine jA ?_;refine jK (zF _) ?_;rintro s1 rfl;refine wK fun K hK=>?_;refine jA ?_;refine jF ?_;refine ab ?_;refine hK _ _ ?_;clear hK K;refine wK fun K hK=>?_;by_cases h:n<u
 ·refine jB (decide_eq_true (show((n:Nat):Int)<(u:Int) by omega)) ?_;refine jE ?_;refine jK (p8 _) ?_;rintro s2 rfl;rw[if_pos h];exact jJ
 ·refine jB (decide_eq_false (show ¬((n:Nat):Int)<(u:Int) by omega)) ?_;refine jF ?_;refine ab ?_;refine hK _ _ ?_;clear hK K;refine jK (hle _) ?_;rintro s2 rfl;rw[if_neg h];exact jJ
theorem wc(l:List UInt8)(sp:Sp)(ha:sp.isAny=false)(s:AS)(hl:l.length≤2^45):aj prog Γ 90 [al l sp] s (fun r s'=>r=al l .any∧s'=s):=by
 refine aa func90 rfl ntmps90 results90 (by simp) ?_;unfold al;refine jA ?_;refine wK fun K hK=>?_;refine jB (Ai @ha @and_false) ?_;refine jF ?_;refine ab ?_;refine hK _ _ ?_;clear hK K;by_cases h0:l.length=0
 ·have uA:l=[]:=List.eq_nil_of_length_eq_zero h0;subst uA;refine jA ?_;refine a7 ?_;simp only[↓DN,Qa,Qb,Qc,Qd,Qe,Qf,Qg,Qh,reduceCtorEq,↓reduceIte,Na,Nb,Nc,Nk,Nf,Ng,Nh,Za,Zb,Zc,TT,ck,bz,bF,dm,eD];exact⟨_,s,AV.bN,AS.le.refl s,rfl,rfl⟩
 ·refine jS @h0 fun K hK=>?_;refine⟨by omega,by omega,fun t ht=>hK _ _ ?_⟩;clear hK K;refine a7 ?_;simp only[↓DN,Qa,Qb,Qc,Qd,Qe,Qf,Qg,Qh,reduceCtorEq,↓reduceIte,Na,Nb,Nc,Nk,Nf,Ng,Nh,Za,Zb,Zc,TT,ck,bz,bF,dm,eD];exact⟨_,s,AV.bN,AS.bn (AS.le.refl s) ht 0,rfl,rfl⟩
theorem C4(s0 s:AS)(p:Nat)(l:List UInt8)(n size:Nat)(hn:n<2^64)(hs:size≤8)(hl:l.length+8≤2^45)(h:xe s0 s p l false):
  aj prog Γ 133 [.ptr p 0,.v (.int .u64 n),.v (.int .i64 size)] s (fun r s'=>r=.eu []∧xe s0 s' p (l++be size n) false):=by
 refine aa func133 rfl ntmps133 results133 (by simp) ?_;refine jA ?_;refine ag ?_;refine aD (fun E s1=>∃(i:Int)(l':List UInt8),E 6=.v (.int .i64 i)∧-1≤i∧i<size∧E 0=.ptr p 0∧E 1=.v (.int .u64 n)∧xe s0 s1 p l' false∧l'++be (i+1).toNat n=l++be size n)
  (fun E _=>match E 6 with |.v (.int _ i)=>(i+1).toNat|_=>0) ?_ ?_
 ·refine⟨size-1,l,?_,by omega,by omega,by simp[aB,bx],by simp[aB,bx],h,by congr 2;omega⟩;simp[aB,bO (show -9223372036854775808≤(size:Int)-1∧(size:Int)-1≤9223372036854775807 by omega)]
 ·rintro E1 s1 ⟨i,l',h6,N3,fO,h0,h1,hp,F2⟩ -
  obtain⟨x,hx,hb⟩:=hp.obj;refine wK fun K hK=>?_;by_cases hi:0≤i
  ·refine jB (Ai @h6 (Ai @h0 (Ai @h1 (Ai @hx (decide_eq_true hi))))) ?_;refine jE ?_;refine ab ?_;refine hK _ _ ?_;clear hK K;refine wK fun K hK=>?_;refine ag ?_;have hmul:ia .i64 8 i=8*i:=dJ (by omega);have Zn:¬(8*i<0):=(by omega);obtain⟨j,rfl⟩:=Int.eq_ofNat_of_zero_le hi;have hj:j<8:=(by omega);have dK:=Oy n j hj;have N4:be ((j:Int)+1).toNat n=UInt8.ofNat (n/2^(8*j))::be j n:=by
    rw[show((j:Int)+1).toNat=j+1 from by omega];rfl
   have hlen:l'.length≤l.length+size:=by
    have:=congrArg List.length F2;simp at this;omega
   have p6:dr .i64 (j:Int) 1=(j:Int)-1:=bO (by omega);have bX:∀(E2:Env)(s2:AS),E2 6=.v (.int .i64 j)→E2 0=.ptr p 0→E2 1=.v (.int .u64 n)→xe s0 s2 p (l'++[UInt8.ofNat (n/2^(8*j))]) false→K E2 s2:=by
    intro E2 s2 e6 e0 e1 F0;refine hK _ _ ?_;clear hK K;refine jD (Ai @e6 @p6) ?_;refine⟨⟨(j:Int)-1,_,rfl,by omega,by omega,e0,e1,F0,?_⟩,?_⟩
    ·rw[←F2,N4];simp
    ·simp only[h6,aB,↓reduceIte];omega
   clear hK;rcases hb with⟨rfl,uA⟩|⟨t,e,rfl,ht,iG⟩
   ·subst uA;refine fw T.mixed [4,11,14] (by kernel_rfl) ?_;intro K hK;simp only[↓DM,bE,DX,Nz,↓DN,Qa,Qb,Qc,Qd,Qe,Qf,Qg,Qh,reduceCtorEq,↓reduceIte,Na,Nb,Nc,Nk,Nf,Ng,Nh,Za,Zb,Zc,TT,h6,h0,h1,hx,bU,hmul,Zn,List.replicate_succ];intro t ht;refine hK _ _ (bX _ _ h6 h0 h1 ?_);rw[dK];exact hp.one ht _
   ·refine fw T.mixed [4,11,14] (by kernel_rfl) ?_;intro K hK;simp only[↓DM,bE,DX,Nz,↓DN,Qa,Qb,Qc,Qd,Qe,Qf,Qg,Qh,reduceCtorEq,↓reduceIte,Na,Nb,Nc,Nk,Nf,Ng,Nh,Za,Zb,Zc,TT,h6,h0,h1,hx,al,hmul,Zn,ht,List.replicate_succ];refine⟨by omega,by omega,hK _ _ (bX _ _ h6 h0 h1 ?_)⟩;rw[dK];exact hp.more iG [_] rfl rfl
  ·have fD:i= -1:=(by omega);subst fD;refine jB (Ai @h6 (Ai @h0 (Ai @h1 @hx))) ?_;refine jF ?_;refine aC ?_;simp only[aA,aq,if_true,ck,bz,bF,eD,List.toList_toArray];refine⟨_,s1,AV.aE.refl _,AS.le.refl _,rfl,?_⟩;have :l'=l++be size n:=(by simpa[be] using F2);rw[←this];exact hp
theorem Hg(s0 s:AS)(p:Nat)(l:List UInt8)(n size:Int)(hs:0≤size∧size≤8)(h:xe s0 s p l true):
  aj prog Γ 133 [.ptr p 0,.v (.int .u64 n),.v (.int .i64 size)] s (fun r s'=>r=.eu []∧xe s0 s' p l true):=by
 refine aa func133 rfl ntmps133 results133 (by simp) ?_;obtain⟨x,hx,hb⟩:=h.obj;have p6:dr .i64 size 1=size-1:=bO (by omega);refine jB @p6 ?_;refine ag ?_;refine aD (fun E s1=>E 6=.v (.int .i64 (size-1))∧E 0=.ptr p 0∧s1=s) (fun _ _=>0) ?_ ?_
 ·exact⟨by simp[aB],by simp[aB,bx],rfl⟩
 ·rintro E1 s1 ⟨h6,h0,rfl⟩ -
  refine wK fun K hK=>?_;by_cases hi:0≤size-1
  ·refine jB (Ai @h6 (Ai @h0 (Ai @hx (decide_eq_true hi)))) ?_;refine jF ?_;refine aC ?_;simp only[aA,aq,if_true,ck,bz,bF,eD,List.toList_toArray];exact⟨_,s1,AV.aE.refl _,AS.le.refl _,rfl,h⟩
  ·refine jB (Ai @h6 (Ai @h0 (Ai @hx (decide_eq_false hi)))) ?_;refine jF ?_;refine aC ?_;simp only[aA,aq,if_true,ck,bz,bF,eD,List.toList_toArray];exact⟨_,s1,AV.aE.refl _,AS.le.refl _,rfl,h⟩
theorem yN(s0 s:AS)(p:Nat)(st:List UInt8×Bool)(n size:Nat)(hn:n<2^64)(hs:size≤8)(hl:st.1.length+8≤2^45)(h:gj s0 s p st):
  aj prog Γ 133 [.ptr p 0,.v (.int .u64 n),.v (.int .i64 size)] s (fun r s'=>r=.eu []∧gj s0 s' p (ei size n st)):=by
 obtain⟨l,b⟩:=st;cases b
 ·exact C4 s0 s p l n size hn hs hl h
 ·exact Hg s0 s p l n size (by omega) h
theorem qC(s:AS):aj prog Γ 31 [] s (fun r s'=>∃p,r=.ptr p 0∧gj s s' p ([],false)):=by
 refine aa func31 rfl ntmps31 results31 (by simp) ?_;refine jA ?_;refine wS fun K hK=>?_;simp only[↓DN,Qa,Qb,Qc,Qd,Qe,Qf,Qg,Qh,reduceCtorEq,↓reduceIte,Na,Nb,Nc,Nk,Nf,Ng,Nh,Za,Zb,Zc,TT,Array.toList_empty];intro p hp;refine hK _ _ ?_;refine a7 ?_;simp only[↓DN,Qa,Qb,Qc,Qd,Qe,Qf,Qg,Qh,reduceCtorEq,↓reduceIte,Na,Nb,Nc,Nk,Nf,Ng,Nh,Za,Zb,Zc,TT,ck,bz,bF,dm,eD];exact⟨_,_,AV.aE.refl _,AS.le.refl _,p,rfl,AS.aF (AS.le.refl s) hp _,hp,_,AS.af _ _ _,.inl ⟨rfl,rfl⟩⟩
theorem kv(s0 s:AS)(p:Nat)(st:List UInt8×Bool)(n:Int)(size:Nat)(hn: -9223372036854775808≤n∧n≤9223372036854775807)(hs:size≤8)(hl:st.1.length+8≤2^45)(h:gj s0 s p st):
  aj prog Γ 135 [.ptr p 0,.v (.int .i64 n),.v (.int .i64 size)] s (fun r s'=>r=.eu []∧gj s0 s' p (bm size n st)):=by
 refine aa func135 rfl ntmps135 results135 (by simp) ?_;obtain⟨x,hx,hb⟩:=h.obj;refine wK fun K hK=>?_;have hmul:ia .i64 8 (size:Int)=8*size:=dJ (by omega);have Zn:¬(8*(size:Int)<0):=(by omega);by_cases h0:n<0
 ·refine jB (decide_eq_true h0) ?_;refine jE ?_;refine jB @hx ?_;refine a7 ?_;simp only[aA,ck,bz,bF,eD,List.toList_toArray];refine jW ⟨rfl,?_⟩;have :bm size n st=(st.1,true):=(by unfold bm;rw[if_neg (by omega)]);rw[this];exact h.bad hx hb true
 ·by_cases h1:2^(8*size)≤n
  ·refine jB (Ai (decide_eq_false h0) (Ai @hmul (Ai @Zn (Ai (A5 n size (by omega) (by omega)) (decide_eq_true h1))))) ?_;refine jE ?_;refine jB @hx ?_;refine a7 ?_;simp only[aA,ck,bz,bF,eD,List.toList_toArray];refine jW ⟨rfl,?_⟩;have :bm size n st=(st.1,true):=(by unfold bm;rw[if_neg (by omega)]);rw[this];exact h.bad hx hb true
  ·refine jB (Ai (decide_eq_false h0) (Ai @hmul (Ai @Zn (Ai (A5 n size (by omega) (by omega)) (decide_eq_false h1))))) ?_;refine jF ?_;refine ab ?_;refine hK _ _ ?_;clear hK K;obtain⟨m,rfl⟩:=Int.eq_ofNat_of_zero_le (Int.not_lt.1 h0);have Zo:cE .u64 (m:Int)=m:=gC m (by omega);refine jU @Zo fun K hK=>?_;refine ad (yN s0 s p st m size (by omega) hs hl h) ?_;rintro r s' ⟨rfl,hp⟩;refine jR hK ?_;clear hK K;simp only[ck,bz,bF,eD,List.toList_toArray];refine jW ⟨rfl,?_⟩;have :bm size m st=ei size m st:=(by unfold bm;rw[if_pos (by omega)];rfl);rw[this];exact hp
theorem fI(s0 s:AS)(p:Nat)(st:List UInt8×Bool)(n:Int)(hn: -9223372036854775808≤n∧n≤9223372036854775807)(hl:st.1.length+8≤2^45)(h:gj s0 s p st):
  aj prog Γ 88 [.ptr p 0,.v (.int .i64 n)] s (fun r s'=>r=.eu []∧gj s0 s' p (bm 1 n st)):=by
 refine aa func88 rfl ntmps88 results88 (by simp) ?_;refine jT fun K hK=>?_;refine ad (kv s0 s p st n 1 hn (by omega) hl h) ?_;rintro r s' ⟨rfl,hp⟩;refine jR hK ?_;clear hK K;simp only[ck,bz,bF,dm,List.toList_toArray,↓bg];try simp only[UP,DF,Nc,↓reduceIte,DT]
 exact jW ⟨rfl,hp⟩
theorem C5(s0 s:AS)(p:Nat)(st:List UInt8×Bool)(n:Int)(hn: -9223372036854775808≤n∧n≤9223372036854775807)(hl:st.1.length+8≤2^45)(h:gj s0 s p st):
  aj prog Γ 145 [.ptr p 0,.v (.int .i64 n)] s (fun r s'=>r=.eu []∧gj s0 s' p (bm 2 n st)):=by
 refine aa func145 rfl ntmps145 results145 (by simp) ?_;refine jT fun K hK=>?_;refine ad (kv s0 s p st n 2 hn (by omega) hl h) ?_;rintro r s' ⟨rfl,hp⟩;refine jR hK ?_;clear hK K;simp only[ck,bz,bF,dm,List.toList_toArray,↓bg];try simp only[UP,DF,Nc,↓reduceIte,DT]
 exact jW ⟨rfl,hp⟩
theorem tX(s0 s:AS)(p:Nat)(st:List UInt8×Bool)(n:Int)(hn: -9223372036854775808≤n∧n≤9223372036854775807)(hl:st.1.length+8≤2^45)(h:gj s0 s p st):
  aj prog Γ 219 [.ptr p 0,.v (.int .i64 n)] s (fun r s'=>r=.eu []∧gj s0 s' p (bm 4 n st)):=by
 refine aa func219 rfl ntmps219 results219 (by simp) ?_;refine jT fun K hK=>?_;refine ad (kv s0 s p st n 4 hn (by omega) hl h) ?_;rintro r s' ⟨rfl,hp⟩;refine jR hK ?_;clear hK K;simp only[ck,bz,bF,dm,List.toList_toArray,↓bg];try simp only[UP,DF,Nc,↓reduceIte,DT]
 exact jW ⟨rfl,hp⟩
theorem lr(s0 s:AS)(p:Nat)(st:List UInt8×Bool)(n:Nat)(hn:n<2^64)(hl:st.1.length+8≤2^45)(h:gj s0 s p st):
  aj prog Γ 86 [.ptr p 0,.v (.int .u64 n)] s (fun r s'=>r=.eu []∧gj s0 s' p (ei 8 n st)):=by
 refine aa func86 rfl ntmps86 results86 (by simp) ?_;refine jT fun K hK=>?_;refine ad (yN s0 s p st n 8 hn (by omega) hl h) ?_;rintro r s' ⟨rfl,hp⟩;refine jR hK ?_;clear hK K;simp only[ck,bz,bF,dm,List.toList_toArray,↓bg];try simp only[UP,DF,Nc,↓reduceIte,DT]
 exact jW ⟨rfl,hp⟩
theorem tY(s0 s:AS)(p:Nat)(st:List UInt8×Bool)(b:AV)(m:List UInt8)(hb:zQ b m)(hl:st.1.length+m.length≤2^45)(h:gj s0 s p st):
  aj prog Γ 175 [.ptr p 0,b] s (fun r s'=>r=.eu []∧gj s0 s' p (ej m st)):=by
 obtain⟨l,bad⟩:=st;obtain⟨x,hx,Mj⟩:=h.obj;refine aa func175 rfl ntmps175 results175 (by simp) ?_;cases bad
 ·refine jB @hx ?_;refine jE ?_;have Zp:ej m (l,false)=(l++m,false):=rfl;by_cases hm:m.length=0
  ·have sP:m=[]:=List.eq_nil_of_length_eq_zero hm;subst sP;have e:(l++[],false)=(l,false):=(by simp);rw[Zp,e];rcases Mj with⟨rfl,uA⟩|⟨t,e,rfl,ht,iG⟩
   ·simp only at uA;subst uA;rcases hb with⟨rfl,_⟩|⟨sp,rfl⟩
    ·refine wE fun K hK=>?_;simp only[↓DN,Qa,Qb,Qc,Qd,Qe,Qf,Qg,Qh,reduceCtorEq,↓reduceIte,Na,Nb,Nc,Nk,Nf,Ng,Nh,Za,Zb,Zc,TT,hx,bU,al,hm];refine hK _ _ ?_;clear hK K;simp only[ck,bz,bF,dm,List.toList_toArray,↓bg];try simp only[UP,DF,Nc,↓reduceIte,DT]
     exact⟨_,_,AV.aE.refl _,AS.le.refl _,rfl,h.bad hx (.inl ⟨rfl,rfl⟩) false⟩
    ·refine wE fun K hK=>?_;simp only[↓DN,Qa,Qb,Qc,Qd,Qe,Qf,Qg,Qh,reduceCtorEq,↓reduceIte,Na,Nb,Nc,Nk,Nf,Ng,Nh,Za,Zb,Zc,TT,hx,bU,al,hm];refine hK _ _ ?_;clear hK K;simp only[ck,bz,bF,dm,List.toList_toArray,↓bg];try simp only[UP,DF,Nc,↓reduceIte,DT]
     exact⟨_,_,AV.aE.refl _,AS.le.refl _,rfl,h.bad hx (.inl ⟨rfl,rfl⟩) false⟩
   ·rcases hb with⟨rfl,_⟩|⟨sp,rfl⟩
    ·refine wE fun K hK=>?_;simp only[↓DN,Qa,Qb,Qc,Qd,Qe,Qf,Qg,Qh,reduceCtorEq,↓reduceIte,Na,Nb,Nc,Nk,Nf,Ng,Nh,Za,Zb,Zc,TT,hx,bU,al,hm];refine hK _ _ ?_;clear hK K;simp only[ck,bz,bF,dm,List.toList_toArray,↓bg];try simp only[UP,DF,Nc,↓reduceIte,DT]
     exact⟨_,_,AV.aE.refl _,AS.le.refl _,rfl,h.bad hx (.inr ⟨t,e,rfl,ht,iG⟩) false⟩
    ·refine wE fun K hK=>?_;simp only[↓DN,Qa,Qb,Qc,Qd,Qe,Qf,Qg,Qh,reduceCtorEq,↓reduceIte,Na,Nb,Nc,Nk,Nf,Ng,Nh,Za,Zb,Zc,TT,hx,bU,al,hm];refine hK _ _ ?_;clear hK K;simp only[ck,bz,bF,dm,List.toList_toArray,↓bg];try simp only[UP,DF,Nc,↓reduceIte,DT]
     exact⟨_,_,AV.aE.refl _,AS.le.refl _,rfl,h.bad hx (.inr ⟨t,e,rfl,ht,iG⟩) false⟩
  ·have KU:∃sp,b=al m sp:=by
    rcases hb with⟨_,rfl⟩|hb
    ·exact absurd rfl hm
    ·exact hb
   obtain⟨sp,rfl⟩:=KU;rw[Zp];simp only at hl;rcases Mj with⟨rfl,uA⟩|⟨t,e,rfl,ht,iG⟩
   ·simp only at uA;subst uA;refine wE fun K hK=>?_;simp only[↓DN,Qa,Qb,Qc,Qd,Qe,Qf,Qg,Qh,reduceCtorEq,↓reduceIte,Na,Nb,Nc,Nk,Nf,Ng,Nh,Za,Zb,Zc,TT,hx,bU,al,hm];refine⟨by omega,by omega,fun t ht=>hK _ _ ?_⟩;clear hK K;simp only[ck,bz,bF,dm,List.toList_toArray,↓bg];try simp only[UP,DF,Nc,↓reduceIte,DT]
    exact jW ⟨rfl,h.OA ht m⟩
   ·refine jU (Ai @hx (Ai @al.eq_1 (Ai @hm @ht))) fun K hK=>?_;refine⟨by omega,by omega,hK _ _ ?_⟩;clear hK K;simp only[ck,bz,bF,dm,List.toList_toArray,↓bg];try simp only[UP,DF,Nc,↓reduceIte,DT]
    exact jW ⟨rfl,h.more iG m rfl rfl⟩
 ·refine jB @hx ?_;refine jF ?_;refine ab ?_;simp only[ck,bz,bF,dm,List.toList_toArray,↓bg];try simp only[UP,DF,Nc,↓reduceIte,DT]
  exact jW ⟨rfl,h⟩
theorem rq(s0 s:AS)(p:Nat)(st:List UInt8×Bool)(b:AV)(m:List UInt8)(k:Nat)(hk:k≤8)(hb:zQ b m)(hl:st.1.length+m.length+8≤2^45)(h:gj s0 s p st):
  aj prog Γ 134 [.ptr p 0,b,.v (.int .i64 k)] s (fun r s'=>r=.eu []∧gj s0 s' p (dz k m st)):=by
 refine aa func134 rfl ntmps134 results134 (by simp) ?_;have hlen:(bm k m.length st).1.length≤st.1.length+k:=eP ..;rcases hb with⟨rfl,rfl⟩|⟨sp,rfl⟩
 ·refine wS fun K hK=>?_;simp only[↓DN,Qa,Qb,Qc,Qd,Qe,Qf,Qg,Qh,reduceCtorEq,↓reduceIte,Na,Nb,Nc,Nk,Nf,Ng,Nh,Za,Zb,Zc,TT,bU,List.length_nil];refine ad (kv s0 s p st 0 k (by omega) hk (by omega) h) ?_;rintro r s' ⟨rfl,hp⟩;refine jR hK ?_;clear hK K;refine jT fun K hK=>?_;refine ad (tY s0 s' p _ bU [] zQ.nil (by have:=eP k 0 st;simp at this hl⊢;omega) hp) ?_;rintro r ic ⟨rfl,Q4⟩;refine jR hK ?_;clear hK K;simp only[ck,bz,bF,dm,List.toList_toArray,↓bg];try simp only[UP,DF,Nc,↓reduceIte,DT]
  exact jW ⟨rfl,Q4⟩
 ·refine jS @al.eq_1 fun K hK=>?_;refine ad (kv s0 s p st m.length k (by omega) hk (by omega) h) ?_;rintro r s' ⟨rfl,hp⟩;refine jR hK ?_;clear hK K;refine jT fun K hK=>?_;refine ad (tY s0 s' p _ (al m sp) m (zQ.mk m sp) (by simp only[List.length_nil] at *;omega) hp) ?_;rintro r ic ⟨rfl,Q4⟩;refine jR hK ?_;clear hK K;simp only[ck,bz,bF,dm,List.toList_toArray,↓bg];try simp only[UP,DF,Nc,↓reduceIte,DT]
  exact jW ⟨rfl,Q4⟩
theorem fJ(s0 s:AS)(p:Nat)(st:List UInt8×Bool)(b:AV)(m:List UInt8)(hb:zQ b m)(hl:st.1.length+m.length+8≤2^45)(h:gj s0 s p st):
  aj prog Γ 87 [.ptr p 0,b] s (fun r s'=>r=.eu []∧gj s0 s' p (dz 1 m st)):=by
 refine aa func87 rfl ntmps87 results87 (by simp) ?_;refine jT fun K hK=>?_;refine ad (rq s0 s p st b m 1 (by omega) hb hl h) ?_;rintro r s' ⟨rfl,hp⟩;refine jR hK ?_;clear hK K;simp only[ck,bz,bF,dm,List.toList_toArray,↓bg];try simp only[UP,DF,Nc,↓reduceIte,DT]
 exact jW ⟨rfl,hp⟩
theorem Am(s0 s:AS)(p:Nat)(st:List UInt8×Bool)(b:AV)(m:List UInt8)(hb:zQ b m)(hl:st.1.length+m.length+8≤2^45)(h:gj s0 s p st):
  aj prog Γ 136 [.ptr p 0,b] s (fun r s'=>r=.eu []∧gj s0 s' p (dz 2 m st)):=by
 refine aa func136 rfl ntmps136 results136 (by simp) ?_;refine jT fun K hK=>?_;refine ad (rq s0 s p st b m 2 (by omega) hb hl h) ?_;rintro r s' ⟨rfl,hp⟩;refine jR hK ?_;clear hK K;simp only[ck,bz,bF,dm,List.toList_toArray,↓bg];try simp only[UP,DF,Nc,↓reduceIte,DT]
 exact jW ⟨rfl,hp⟩
theorem BC(s:AS):aj prog Γ 90 [bU] s (fun r s'=>r=al [] .any∧s'=s):=by
 refine aa func90 rfl ntmps90 results90 (by simp) ?_;unfold bU;refine jA ?_;refine wK fun K hK=>?_;refine jA ?_;refine jE ?_;refine jA ?_;refine jI ?_;exact⟨_,_,AV.aM,AS.le.refl _,rfl,rfl⟩
theorem tZ(l:List UInt8)(s:AS)(hl:l.length≤2^45):aj prog Γ 90 [al l .any] s (fun r s'=>r=al l .any∧s'=s):=
 aj.any (pre:=[]) (post:=[]) (fun e=>by subst e;exact BC s) (wc l .no rfl s hl)
theorem iS(s0 s:AS)(p:Nat)(st:List UInt8×Bool)(hl:st.1.length≤2^45)(h:gj s0 s p st):
  aj prog Γ 33 [.ptr p 0] s (fun r s'=>r=.eu [al (if st.2=true then[] else st.1) .any,.v (.bool !st.2)]∧s'=s):=by
 obtain⟨l,bad⟩:=st;obtain⟨x,hx,Mj⟩:=h.obj;refine aa func33 rfl ntmps33 results33 (by simp) ?_;simp only at hx hl Mj;refine jA ?_;refine wK fun K hK=>?_;cases bad
 ·refine jB @hx ?_;refine jF ?_;refine ab ?_;refine hK _ _ ?_;clear hK K;rcases Mj with⟨rfl,uA⟩|⟨t,e,rfl,ht,iG⟩
  ·subst uA;refine jS @hx fun K hK=>?_;refine ad (BC s) ?_;rintro r s' ⟨rfl,rfl⟩;refine jR hK ?_;clear hK K;exact jJ
  ·refine jS @hx fun K hK=>?_;refine ad (wc l _ rfl s hl) ?_;rintro r s' ⟨rfl,rfl⟩;refine jR hK ?_;clear hK K;exact jJ
 ·refine jB @hx ?_;refine jE ?_;refine jA ?_;refine jI ?_;exact⟨_,_,AV.da AV.aM (AV.aE.refl _),AS.le.refl _,rfl,rfl⟩
theorem sg(l:List UInt8)(s:AS)(hl:l.length≤2^45):aj prog Γ 35 [al l .any] s (fun r s'=>∃p,r=.ptr p 0∧rP s s' p (l,0)):=by
 refine aa func35 rfl ntmps35 results35 (by simp) ?_;refine jA ?_;refine jQ fun K hK=>?_;refine ad (tZ l s hl) ?_;rintro r s' ⟨rfl,rfl⟩;unfold al;refine jM ?_;intro p hp;refine hK _ _ ?_;refine jI ?_;exact jW ⟨p,rfl,AS.aF (AS.le.refl _) hp _,hp,AS.af _ _ _⟩
theorem Hh(s0 s:AS)(p:Nat)(st:kn)(n:Int)(h:rP s0 s p st):
  aj prog Γ 176 [.ptr p 0,.v (.int .i64 n)] s (fun r s'=>r=al (ee n st).1 .any∧rP s0 s' p (ee n st).2):=by
 refine aa func176 rfl ntmps176 results176 (by simp) ?_;obtain⟨l,er⟩:=st;have hx:=h.obj;simp only[al] at hx;refine jA ?_;refine wK fun K hK=>?_;refine ag ?_;by_cases h0:er=0
 ·subst h0;refine jB (Ai @hx (Cf 0 rfl)) ?_;refine jF ?_;by_cases h1:n<0
  ·refine jB (decide_eq_true h1) ?_;refine jE ?_;refine jB @hx ?_;refine jA ?_;refine jI ?_;rw[Er h1];exact⟨_,_,AV.aM,AS.le.refl _,rfl,h.put⟩
  ·refine jB (decide_eq_false h1) ?_;refine jF ?_;by_cases h2:(l.length:Int)<n
   ·refine jB (Ai @hx (decide_eq_true h2)) ?_;refine jE ?_;refine jB @hx ?_;refine jA ?_;refine jI ?_;rw[zR h1 h2];exact⟨_,_,AV.aM,AS.le.refl _,rfl,h.put⟩
   ·obtain⟨m,rfl⟩:=Int.eq_ofNat_of_zero_le (Int.not_lt.1 h1);have sO:m≤l.length:=(by omega);have sP:(0:Int)≤(m:Int):=(by omega);have Zq:(m:Int)≤(l.length:Int):=(by omega);refine jB (Ai @hx (decide_eq_false h2)) ?_;refine jF ?_;refine ab ?_;simp only[aA,aq,if_true,if_false];refine hK _ _ ?_;clear hK K;refine jB (Ai @hx (Ai @sP (Ai @Zq @Int.le_refl))) ?_;refine jB (Ai @hx (Ai @sP (Ai @Zq @Int.le_refl))) ?_;refine jA ?_;refine jI ?_;rw[Gs sO];refine⟨_,_,AV.aE.refl _,AS.le.refl _,Em ?_ rfl,h.xbR ?_⟩
    ·simp only[List.length_take];omega
    ·rw[Em (m:=l.drop m)]
     ·simp only[List.length_drop]
     ·rw[List.take_length]
 ·refine jB (Ai @hx (En er h0)) ?_;refine jE ?_;refine jA ?_;refine jI ?_;rw[Ep h0];exact⟨_,_,AV.aM,AS.le.refl _,rfl,h⟩
theorem oQ(s0 s:AS)(p:Nat)(st:kn)(size:Nat)(hs:size≤8)(h:rP s0 s p st):
  aj prog Γ 137 [.ptr p 0,.v (.int .i64 size)] s (fun r s'=>r=.v (.int .u64 (jn size st).1)∧rP s0 s' p (jn size st).2):=by
 refine aa func137 rfl ntmps137 results137 (by simp) ?_;obtain⟨out,bB⟩:∃out,out=(ee size st).1:=⟨_,rfl⟩;have hlen:out.length≤8:=(by rw[bB];exact Nat.le_trans (x8 _ _) hs);refine jA ?_;refine jA ?_;refine wK fun K hK=>?_;refine jQ fun K hK=>?_;refine ad (Hh s0 s p st size h) ?_;rintro r s2 ⟨rfl,he⟩;rw[←bB];unfold al;refine jR hK ?_;clear hK K;refine ag ?_;refine aD (fun E s3=>∃j y:Nat,j≤out.length∧E 10=.sl 1 out.length (out.map ae) .any∧E 11=.v (.int .i64 out.length)∧E 12=.v (.int .i64 j)∧E 5=.v (.int .u64 y)∧y=gX (out.take j)∧s3=s2)
  (fun E _=>match E 12 with |.v (.int _ j)=>out.length-j.toNat|_=>0) ?_ ?_
 ·exact⟨0,0,Nat.zero_le _,rfl,rfl,rfl,rfl,rfl,rfl⟩
 ·rintro E3 s3 ⟨j,y,hj,f10,f11,f12,f5,hy,rfl⟩ -
  by_cases kg:j<out.length
  ·have hy7:y<2^56:=by
    rw[hy];refine Nat.lt_of_lt_of_le (qW out j) ?_;rw[show(2:Nat)^56=256^7 from by decide];exact Nat.pow_le_pow_right (by decide) (by omega)
   have hy2:gX (out.take (j+1))=y*256+out[j].toNat:=(by rw[List.take_succ_eq_append_getElem kg,xZ,←hy]);have Zj:(0:Int)≤(j:Int):=(by omega);have cT:=KN kg;generalize DE:out[j]=c at *
   refine jB (Ai @f11 (Ai @f12 (Ai @au (decide_eq_true kg)))) ?_;refine wK fun K5 ju=>?_;refine jE ?_;refine ab ?_;refine ju _ _ ?_;clear ju K5;refine wK fun K6 kU=>?_;refine ag ?_;refine wS fun K hK=>?_;simp only[↓DN,Qa,Qb,Qc,Qd,Qe,Qf,Qg,Qh,reduceCtorEq,↓reduceIte,Na,Nb,Nc,Nk,Nf,Ng,Nh,Za,Zb,Zc,TT,f10,f12,au,kg,Zj,cT,ae];refine hK _ _ ?_;clear hK K;refine jD (Ai @f5 (Gr y c hy7)) ?_;simp only[aq,aA,if_true,if_false];refine kU _ _ ?_;clear kU K6;refine jD (Ai @f12 (eG j (by omega))) ?_;refine⟨⟨j+1,y*256+c.toNat,by omega,f10,f11,rfl,rfl,hy2.symm,rfl⟩,?_⟩;simp only[f12,aB,↓reduceIte];omega
  ·refine jB (Ai @f11 (Ai @f12 (Ai @au (decide_eq_false kg)))) ?_;refine wK fun K5 ju=>?_;refine jF ?_;refine aC ?_;simp only[aA,aq,if_true];refine hK _ _ ?_;clear hK ju K K5;refine jB @f5 ?_;refine jI ?_;refine⟨_,_,AV.aE.refl _,AS.le.refl _,?_,he⟩;rw[hy,List.take_of_length_le (by omega),bB];rfl
theorem JQ(k:Nat)(hk:k≤7)(st:kn):cE .i64 ((jn k st).1:Int)=((jn k st).1:Int):=by
 have:=Jo k st;have h2:256^k≤256^7:=Nat.pow_le_pow_right (by decide) hk;have h3:(256:Nat)^7=72057594037927936:=(by decide);exact A3 (by omega)
theorem uc(s0 s:AS)(p:Nat)(st:kn)(h:rP s0 s p st):
  aj prog Γ 217 [.ptr p 0] s (fun r s'=>r=.v (.int .i64 (jn 4 st).1)∧rP s0 s' p (jn 4 st).2):=by
 refine aa func217 rfl ntmps217 results217 (by simp) ?_;refine jA ?_;refine jQ fun K hK=>?_;refine ad (oQ s0 s p st 4 (by omega) h) ?_;rintro r s' ⟨rfl,he⟩;refine jV (JQ 4 (by omega) st) hK ?_;clear hK K;refine jI ?_;exact jW ⟨rfl,he⟩
theorem C6(s0 s:AS)(p:Nat)(st:kn)(h:rP s0 s p st):
  aj prog Γ 94 [.ptr p 0] s (fun r s'=>r=.v (.int .u64 (jn 8 st).1)∧rP s0 s' p (jn 8 st).2):=by
 refine aa func94 rfl ntmps94 results94 (by simp) ?_;refine jA ?_;refine jQ fun K hK=>?_;refine ad (oQ s0 s p st 8 (by omega) h) ?_;rintro r s' ⟨rfl,he⟩;refine jR hK ?_;clear hK K;refine jI ?_;exact jW ⟨rfl,he⟩
theorem n256:((256:Int)=0)=False:=by simp
theorem Ml(q:Nat):cE .u8 (iW (q:Int) 256)=((UInt8.ofNat q).toNat:Int):=by
 rw[show(256:Int)=((256:Nat):Int) from rfl,lP,gN rfl];simp[IntKind.bits]
theorem PL(n i:Nat)(h:n<2^64):kX .u64 ((n/256^i:Nat):Int) 256=((n/256^(i+1):Nat):Int):=by
 have hq:n/256^i<2^IntKind.u64.bits:=Nat.lt_of_le_of_lt (Nat.div_le_self _ _) h;have:=KH (k:=.u64) rfl (n/256^i) 256 hq;rw[show(256:Int)=((256:Nat):Int) from rfl,this,Nat.div_div_eq_div_mul,Nat.pow_succ]
theorem Mm(c:UInt8):kW [AV.v (.int .u8 (c.toNat:Int))]=ByteArray.mk [c].toArray:=dC [c]
theorem PM(c:UInt8):isByte (AV.v (.int .u8 (c.toNat:Int)))=true:=rfl
theorem oR(n size:Nat)(hn:n<2^64)(hs:size≤8)(s:AS):
  aj prog Γ 91 [.v (.int .u64 n),.v (.int .i64 size)] s (fun r s'=>r=.v (.string ⟨(be size n).toArray⟩)∧s'=s):=by
 refine aa func91 rfl ntmps91 results91 (by simp) ?_;refine jA ?_;refine jA ?_;refine wK fun K hK=>?_;refine jA ?_;refine ag ?_;refine aD (fun E s1=>∃i:Nat,i≤size∧E 6=.v (.int .i64 i)∧E 1=.v (.int .i64 size)∧E 0=.v (.int .u64 (n/256^i:Nat))∧E 5=.v (.string ⟨(be i n).toArray⟩)∧s1=s)
  (fun E _=>match E 6 with |.v (.int _ i)=>size-i.toNat|_=>0) ?_ ?_
 ·exact⟨0,Nat.zero_le _,by simp[aB],by simp[aB,bx],by simp[aB,bx],by simp[aB,be],rfl⟩
 ·rintro E1 s1 ⟨i,hi,h6,h1,h0,h5,rfl⟩ -
  refine wK fun K2 aU=>?_;by_cases aY:i<size
  ·refine jB (Ai @h6 (Ai @h1 (Ai @au (decide_eq_true aY)))) ?_;refine jE ?_;refine ab ?_;refine aU _ _ ?_;clear aU K2;refine wK fun K3 bq=>?_;refine ag ?_;refine wS fun K hK=>?_;simp only[↓DN,Qa,Qb,Qc,Qd,Qe,Qf,Qg,Qh,reduceCtorEq,↓reduceIte,Na,Nb,Nc,Nk,Nf,Ng,Nh,Za,Zb,Zc,TT,h0,h5,n256,Ml,Mm,PM,List.replicate_succ,dO,qp,jm,eF (show 1+i<2^62 by omega)];refine hK _ _ ?_;clear hK K;refine jD (Ai @h0 (Ai @n256 (PL n i hn))) ?_;simp only[aq,aA,if_true,if_false];refine bq _ _ ?_;clear bq K3;refine jD (Ai @h6 (eG i (by omega))) ?_;refine⟨⟨i+1,by omega,rfl,h1,rfl,?_,rfl⟩,?_⟩
   ·simp only[aB,Nc,↓reduceIte,be,show 2^(8*i)=256^i from by rw[Nat.pow_mul]]
   ·simp only[h6,aB,↓reduceIte];omega
  ·refine jB (Ai @h6 (Ai @h1 (Ai @au (decide_eq_false aY)))) ?_;refine jF ?_;refine aC ?_;simp only[aA,aq,if_true];refine hK _ _ ?_;clear hK aU K K2;refine jB @h5 ?_;refine jI ?_;obtain rfl:i=size:=(by omega);exact jW ⟨rfl,rfl⟩
theorem PN(n:Nat)(h:n<2^63):cE .u64 (n:Int)=n:=gC n (by omega)
theorem rr(l:List UInt8)(size:Nat)(hl:l.length<2^61)(hs:size≤8)(s:AS):
  aj prog Γ 92 [.v (.string ⟨l.toArray⟩),.v (.int .i64 size)] s (fun r s'=>r=.v (.string ⟨(be size l.length++l).toArray⟩)∧s'=s):=by
 refine aa func92 rfl ntmps92 results92 (by simp) ?_;refine jA ?_;refine jS (Ai @dO (PN l.length (by omega))) fun K hK=>?_;refine ad (oR l.length size (by omega) hs s) ?_;rintro r s' ⟨rfl,rfl⟩;refine jV (Ai @dO (Ai @qp (Ai @jm (eF (show size+l.length<2^62 by omega))))) hK ?_;clear hK K;exact jJ
theorem Mn(y:Nat)(c:UInt8)(h:y<2^56):dQ .u64 (ia .u64 (y:Int) 256) (cE .u64 (c.toNat:Int))=((y*256+c.toNat:Nat):Int):=by
 have hc:=c.toNat_lt;rw[gC _ (by omega),show(256:Int)=((256:Nat):Int) from rfl,Cd rfl,Nat.mod_eq_of_lt (by simp only[IntKind.bits];omega),uG rfl,Nat.mod_eq_of_lt (by simp only[IntKind.bits];omega)]
theorem Fi(l:List UInt8)(hl:l.length≤8)(s:AS):
  aj prog Γ 67 [.v (.string ⟨l.toArray⟩)] s (fun r s'=>r=.v (.int .u64 (gX l))∧s'=s):=by
 refine aa func67 rfl ntmps67 results67 (by simp) ?_;refine jA ?_;refine jA ?_;refine wK fun K hK=>?_;refine jA ?_;refine ag ?_;refine aD (fun E s1=>∃i x:Nat,i≤l.length∧E 0=.v (.string ⟨l.toArray⟩)∧E 4=.v (.int .i64 i)∧E 3=.v (.int .u64 x)∧x=gX (l.take i)∧s1=s)
  (fun E _=>match E 4 with |.v (.int _ i)=>l.length-i.toNat|_=>0) ?_ ?_
 ·exact⟨0,0,Nat.zero_le _,by simp[aB,bx],by simp[aB],by simp[aB],by simp[gX],rfl⟩
 ·rintro E1 s1 ⟨i,x,hi,h0,h4,h3,hx,rfl⟩ -
  refine wK fun K2 aU=>?_;by_cases aY:i<l.length
  ·have UF:gX (l.take (i+1))=x*256+l[i].toNat:=(by rw[List.take_succ_eq_append_getElem aY,xZ,←hx]);have hx7:x<2^56:=by
    rw[hx];refine Nat.lt_of_lt_of_le (qW l i) ?_;rw[show(2:Nat)^56=256^7 from by decide];exact Nat.pow_le_pow_right (by decide) (by omega)
   have YE:(0:Int)≤(i:Int):=(by omega);have fA:=SG l i aY;generalize DE:l[i]=c at *
   refine jB (Ai @h0 (Ai @h4 (Ai @dO (Ai @au (decide_eq_true aY))))) ?_;refine jE ?_;refine ab ?_;refine aU _ _ ?_;clear aU K2;refine wK fun K3 bq=>?_;refine ag ?_;refine wE fun K hK=>?_;simp only[↓DN,Qa,Qb,Qc,Qd,Qe,Qf,Qg,Qh,reduceCtorEq,↓reduceIte,Na,Nb,Nc,Nk,Nf,Ng,Nh,Za,Zb,Zc,TT,h0,h4,h3,YE,fA,ae,Mn x c hx7];refine hK _ _ ?_;clear hK K;simp only[aq,aA,if_true,if_false];refine bq _ _ ?_;clear bq K3;refine jD (Ai @h4 (eG i (by omega))) ?_;refine⟨⟨i+1,_,by omega,h0,rfl,rfl,UF.symm,rfl⟩,?_⟩;simp only[h4,aB,↓reduceIte];omega
  ·refine jB (Ai @h0 (Ai @h4 (Ai @dO (Ai @au (decide_eq_false aY))))) ?_;refine jF ?_;refine aC ?_;simp only[aA,aq,if_true];refine hK _ _ ?_;clear hK aU K K2;refine jB @h3 ?_;refine jI ?_;refine jW ⟨?_,rfl⟩;rw[hx,List.take_of_length_le (by omega)]
end Go.Proofs.YtbiefppedlodiaaGreatDoor
