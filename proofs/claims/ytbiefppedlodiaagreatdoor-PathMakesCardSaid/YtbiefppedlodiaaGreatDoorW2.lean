/- Contracts of functions, each walked once; each theorem states its conditions. -/
import Derived.Test.YtbiefppedlodiaaGreatDoorAMp6
import Derived.Test.YtbiefppedlodiaaGreatDoorW1
import Derived.Test.YtbiefppedlodiaaGreatDoorAMp7
import Derived.Shelf.Spec.SlicesInsertGrow
import Derived.Test.YtbiefppedlodiaaGreatDoorAMp4
import Derived.Test.YtbiefppedlodiaaGreatDoorAMp5
import Derived.Shelf.Slices.SearchI
import Derived.Shelf.Slices.Empties
import Derived.Sort.EveryDepth
import Derived.Shelf.Sort.AssemblyIn
import Derived.Lib.RowBridge
import Derived.Test.YtbiefppedlodiaaGreatDoorAMp3
open ByteArray renaming mk -> cC
open Go.IntKind renaming bits -> aJ
open Go.Value renaming int -> dw
open Int renaming eq_ofNat_of_zero_le -> ba, le_refl -> bB, toNat_natCast -> aC
open List renaming drop -> aK, eq_nil_of_length_eq_zero -> al, getD -> bm, getElem?_map -> aN, getElem?_take -> aF, getElem_mem -> bg, length_append -> ai, length_map -> aj, length_nil -> aX, length_take -> aV, map_append -> aH, map_cons -> aG, mem_append -> cu, mem_cons_of_mem -> aQ, mem_singleton -> cg, range -> aq, replicate_succ -> av, take -> aD, take_length -> cB, take_of_length_le -> ad, take_succ_eq_append_getElem -> af, toList_toArray -> ah
open Nat renaming le_refl -> ax, mod_eq_of_lt -> aW, pow_le_pow_right -> bJ, pow_succ -> cj, zero_le -> aA
open Option.some renaming inj -> bZ, injEq -> aU
open UInt8 renaming ofNat -> az
set_option linter.unusedSimpArgs false
set_option linter.unusedVariables false
open Nat renaming reduceLT -> Na, reduceLeDiff -> Nb, reduceEqDiff -> Nc, reduceAdd -> Nk, reduceMul -> Nf, reducePow -> Ng, reduceSub -> Nh, reduceBEq -> Nz
open Int renaming reduceLT -> Za, reduceLE -> Zb, reduceToNat -> Zc
open And renaming intro -> Ai
open Go.AM renaming ashift -> Qa, aconv -> Qb, aindexAddr -> Qc, aindex -> Qd, aslice -> Qe, abuiltin -> Qf, awp_reg_seq -> wS, awp_reg_end -> wE, awp_seq_k -> wK, awp_cond_k -> wC
open Go.AM.AV renaming cells -> Qg, one -> Qh
set_option maxRecDepth 100000
set_option maxHeartbeats 8000000
namespace Go.Proofs.YtbiefppedlodiaaGreatDoor
open Go Go.AM Go.Proofs Tryz
variable{Γ:Nat->List AV}
theorem zu{k:Int}(h1: -4611686018427387904<=k)(h2:k<=4611686018427387904):gR .i64 k 1=k-1:=IntWalk.i64_in _ oM
theorem Il(n:Nat)(cs:List AV)(s:AS):
  aI prog Γ 112 [.sl 1 n cs .any] s (.wm 160 [.ij [.sl 1 n cs .any]]):=by
 refine xH func112 ntmps112 results112 ?_;refine ev 1 dM ?_;intro K hK;refine jM ?_;intro o1 h1;refine hK _ _ o1 _ rfl h1 ?_;refine jA ?_;exact jJ
theorem Eb(n:Nat)(cs:List AV)(s:AS):
  aI prog Γ 110 [.sl 1 n cs .any] s (.wm 157 [.ij [.sl 1 n cs .any]]):=by
 refine xH func110 ntmps110 results110 ?_;refine ev 1 dM ?_;intro K hK;refine jM ?_;intro o1 h1;refine hK _ _ o1 _ rfl h1 ?_;refine jA ?_;exact jJ
theorem Im(cs:List AV)(n:Nat)(hl:cs.length=n)(hn:n<=2^40):
  Bx prog Γ 160 [.ij [.sl 1 n cs .any]] (cs.map fun c=>[c]):=by
 refine J3 func160 rfl ntmps160 results160 sM ?_;intro I l s G h0 hy;refine kL (fY.y ?_);refine jC ?_;refine vW ?_;refine J2 (fun E s'=>∃i:Nat,i<=n∧E 0=.v (.func (.yield l) #[] #[])∧E 5=.sl 1 n cs .any∧E 6=.v (.int .i64 n)∧E 7=.v (.int .i64 i)∧I i s')
  (fun E _=>match E 7 with |.v (.int _ i)=>n-i.toNat|_=>0) ?_ ?_
 ·exact⟨0,aA _,rfl,rfl,rfl,rfl,h0⟩
 rintro E s' ⟨i,hi,e0,e5,e6,e7,hI⟩ -
 by_cases et:i<n
 ·have fB:((i:Nat):Int)<((n:Nat):Int):=oM;have h0i:(0:Int)<=((i:Nat):Int):=oM;obtain⟨c,hc⟩:∃c,cs[i]? =some c:=⟨cs[i]'oM,by simp[hl,et]⟩;have lr:(aD 1 (aK i cs))[0]? =some c:=(by simp[aF,hc]);refine kL (fY.y ?_);refine jD (Ai @e6 (Ai @e7 (dT fB))) ?_;refine kL (fY.y (wD (by simp only[ef,dY,↓reduceIte]) (dX ?_)));refine kL (vW ?_);refine kL (fY.y ?_);refine jD (Ai @e5 (Ai @e7 (Ai @fB (Ai @h0i @lr)))) ?_;refine ML (l:=l) (xs:=[_]) rfl rfl dM ?_;intro K hK ops;refine jN @e0 ?_;refine⟨_,hy i [c] _ (by simp[hc]) hI,?_⟩;intro s2 oq;refine hK _ _<|fY.y (lK (by simp only[ef,dY,↓reduceIte]) (dX ?_));simp only[dn,dJ];refine fY.y ?_;refine jD (Ai @e7 (eK i oM)) ?_;refine⟨⟨i+1,oM,e0,e5,e6,rfl,oq⟩,?_⟩;simp only[dY,e7,↓reduceIte,aC];omega
 ·have fB:¬((i:Nat):Int)<((n:Nat):Int):=oM;obtain rfl:i=n:=oM;refine kL (fY.y ?_);refine jD (Ai @e6 (Ai @e7 (dF fB))) ?_;refine kL (fY.y (lK (by simp only[ef,dY,↓reduceIte]) (ep ?_)));simp only[dn,dJ,↓reduceIte];exact⟨sM,by simpa[hl] using hI⟩
theorem Ec(l0:List Int)(n:Nat)(hl:l0.length=n)(hn:n<=2^40):
  Bx prog Γ 157 [.ij [.sl 1 n (l0.map ed) .any]] ((aq n).map fun i=>[ed ((n-1-i:Nat):Int),ed (l0.getD (n-1-i) 0)]):=by
 refine J3 func157 rfl ntmps157 results157 sM ?_;intro I l s G h0 hy;refine kL (fY.y ?_);refine jC ?_;refine vW ?_;refine J2 (fun E s'=>∃i:Nat,i<=n∧E 0=.v (.func (.yield l) #[] #[])∧E 1=.ij [.sl 1 n (l0.map ed) .any]∧E 3=.v (.int .i64 ((n:Int)-1-i))∧I i s')
  (fun E _=>match E 3 with |.v (.int _ i)=>(i+1).toNat|_=>0) ?_ ?_
 ·refine⟨0,aA _,rfl,rfl,?_,h0⟩;simp only[dY,↓reduceIte,Nc];rw[zu oM oM];simp
 rintro E s' ⟨i,hi,e0,e1,e3,hI⟩ -
 by_cases et:i<n
 ·have gC:(n:Int)-1-i≥0:=oM;have xcB:(0:Int)<=(n:Int)-1-i:=oM;have fB:(n:Int)-1-i<(n:Int):=oM;obtain⟨k,hk⟩:∃k:Nat,(n:Int)-1-i=(k:Int):=⟨n-1-i,oM⟩;have XY:n-1-i=k:=oM;rw[hk] at e3 gC xcB fB;have lr:(aD 1 (aK k (l0.map ed)))[0]? =some (ed (l0.getD k 0)):=by
   have sC:k<l0.length:=oM;simp[aF,bm,sC]
  refine kL (kL (fY.y ?_));refine jD (Ai @e3 (dT gC)) ?_;refine fY.y (wD (by simp only[ef,dY,↓reduceIte]) (dX ?_));simp only[dJ];refine kL (vW ?_);refine MN (l:=l) (xs:=[_,_]) rfl rfl dM ?_;intro K hK ops;refine jN (Ai @e0 (Ai @e1 (Ai @e3 (Ai @xcB (Ai @fB @lr))))) ?_;refine⟨_,hy i [ed (k:Int),ed (l0.getD k 0)] _ (by simp[et,XY]) hI,?_⟩;intro s2 oq;refine hK _ _<|fY.y (lK (by simp only[ef,dY,↓reduceIte]) (dX ?_));simp only[dn,dJ];refine fY.y ?_;refine jD (Ai @e3 (zu (k:=(k:Int)) oM oM)) ?_;refine⟨⟨i+1,oM,e0,e1,?_,oq⟩,?_⟩
  ·simp only[dY,↓reduceIte,Nc];rw[show((k:Nat):Int)-1=(n:Int)-1-((i+1:Nat):Int) by omega]
  ·simp only[dY,e3,↓reduceIte,Nc];omega
 ·obtain rfl:i=n:=oM;have gC:¬(((i:Nat):Int)-1-i≥0):=oM;refine kL (kL (fY.y ?_));refine jD (Ai @e3 (dF gC)) ?_;refine fY.y (lK (by simp only[ef,dY,↓reduceIte]) (ep ?_));simp only[dn,dJ,↓reduceIte];exact⟨sM,by simpa using hI⟩
end Go.Proofs.YtbiefppedlodiaaGreatDoor
namespace Go.AM
open Go Go.RowKit Go.Shelf Go.Proofs
variable{P:Program}{Γ:Nat->List AV}{G:Gh}{s:AS}{w:World}{N:Nat}
def ND(i:Int):Value:=.int .i64 i
theorem dP.ints{G:Gh}(l:List Int):dP G (l.map ed) (l.map ND):=by
  induction l with
  |nil=>simp[dP]
  |cons i l ih=>simp only[aG,dP];exact⟨ND i,_,rfl,by simp[ed,ND,dQ],ih⟩
theorem dP.OG{G:Gh}:∀{l:List Int}{vs:List Value},dP G (l.map ed) vs->vs=l.map ND
  |[],vs,h=>by simpa[dP] using h
  |i::l,vs,h=>by
    simp only[aG,dP] at h;obtain⟨u,us,rfl,h1,h2⟩:=h;rw[dP.OG h2];simp only[ed,dQ] at h1;rw[h1];rfl
open Go
structure OH where
  kind:Int
  n:Int
  b:List UInt8
def OH.cells(p:OH):List AV:=[.v (.int .i64 p.kind),.v (.int .i64 p.n),dm p.b .any]
def xgJ(ps:List OH):List AV:=(ps.map OH.cells).flatten
def eb{α:Type}(c:α->List AV)(l:List α):List AV:=(l.map c).flatten
theorem nv{α:Type}{c:α->List AV}{k:Nat}(hk:∀a,(c a).length=k){l:List α}{i:Nat}(h:i<l.length):aD k (aK (i*k) (eb c l))=c l[i]:=by
  have:=De (sz:=k) (els:=l.map c) (i:=i) (by simpa using h) (by
    intro el B3;obtain⟨p,_,rfl⟩:=List.mem_map.1 B3;exact hk p)
  unfold eb;rw[this];simp
theorem gU{α:Type}{c:α->List AV}{k:Nat}(hk:∀a,(c a).length=k)(l:List α):(eb c l).length=l.length*k:=by
  induction l with
  |nil=>simp[eb]
  |cons a l ih=>
    have :eb c (a::l)=c a++eb c l:=rfl;rw[this,ai,ih,hk,List.length_cons,Nat.succ_mul,Nat.add_comm]
theorem Tc{α:Type}{c:α->List AV}(l:List α)(a:α):eb c (l++[a])=eb c l++c a:=by simp[eb]
def Yf(n:Nat):Prop:=2<=n∧n<=2305843009213693949
instance(n:Nat):Decidable (Yf n):=by unfold Yf;infer_instance
structure rp where
  kind:Int
  leaf:Int
  name:List UInt8
  key:Nat
  init:Nat
  deriving DecidableEq
structure gg where
  ot:Nat
  text:List UInt8
  deriving DecidableEq
structure ft where
  key:Nat
  iJ:List gg
  deriving DecidableEq
structure ia where
  key:Nat
  parent:List UInt8
  steps:List ft
  deriving DecidableEq
structure gV where
  group:List UInt8
  nT:Int
  Io:Int
  props:List rp
  CE:Bool
  path:ia
  Ip:List UInt8
  NF:List UInt8
  deriving DecidableEq
def rp.cells(p:rp):List AV:=[.v (.int .i64 p.kind),.v (.int .i64 p.leaf),dm p.name .any,.v (.int .u64 p.key),.v (.int .u64 p.init)]
def gg.cells(p:gg):List AV:=[.v (.int .u64 p.ot),dm p.text .any]
def ft.cells(p:ft):List AV:=[.v (.int .u64 p.key),.sl 2 p.iJ.length (eb gg.cells p.iJ) .any]
def ia.cells(p:ia):List AV:=[.v (.int .u64 p.key),dm p.parent .any,.sl 2 p.steps.length (eb ft.cells p.steps) .any]
def gV.cells(c:gV):List AV:=
  [dm c.group .any,.v (.int .i64 c.nT),.v (.int .i64 c.Io),.sl 5 c.props.length (eb rp.cells c.props) .any,.v (.bool c.CE),
   .v (.int .u64 c.path.key),dm c.path.parent .any,.sl 2 c.path.steps.length (eb ft.cells c.path.steps) .any,dm c.Ip .any,dm c.NF .any]
def rp.wf(p:rp):Prop:=p.key<2^64∧p.init<2^64
def gg.wf(p:gg):Prop:=p.ot<2^64
def ft.wf(p:ft):Prop:=p.key<2^64∧(∀x∈p.iJ,x.wf)∧p.iJ.length<=maxLen
def ia.wf(p:ia):Prop:=p.key<2^64∧(∀x∈p.steps,x.wf)∧p.steps.length<=maxLen
def gV.wf(c:gV):Prop:=(∀x∈c.props,x.wf)∧c.path.wf∧c.props.length<=maxLen
abbrev tyU:Ty:=.int .u64
abbrev ZS:Ty:=.struct (.cons Hy (.cons Hy (.cons I7 (.cons tyU (.cons tyU .nil)))))
abbrev ZT:Ty:=.struct (.cons tyU (.cons I7 .nil))
abbrev ZU:Ty:=.struct (.cons tyU (.cons (.slice 2 ZT) .nil))
abbrev ZV:Ty:=.struct (.cons tyU (.cons I7 (.cons (.slice 2 ZU) .nil)))
abbrev xcD:Ty:=.struct (.cons I7 (.cons Hy (.cons Hy (.cons (.slice 5 ZS) (.cons .bool (.cons ZV (.cons I7 (.cons I7 .nil))))))))
def rp.right(p:rp):Prop:=
  (p.kind=1∧p.leaf=0∧1<=p.name.length∧p.name.length<=16∧Yf p.key∧Yf p.init)∨
  (p.kind=2∧0<=p.leaf∧p.leaf<32∧p.name.length=0∧Yf p.key∧p.init=0)∨
  (p.kind=3∧0<=p.leaf∧p.leaf<32∧p.name.length=0∧p.key=0∧p.init=0)
def gg.right(p:gg):Prop:=Yf p.ot∧p.text.length=48
def ft.right(p:ft):Prop:=(∀x∈p.iJ,x.right)∧Yf p.key∧p.iJ.length<=32
def ia.right(p:ia):Prop:=(∀x∈p.steps,x.right)∧Yf p.key∧(p.parent.length=0∨p.parent.length=32)∧p.steps.length<=5
def ia.none(p:ia):Prop:=p.key=0∧p.parent.length=0∧p.steps.length=0
def gV.NG(c:gV):Prop:=(c.CE=true->c.path.right)∧(c.CE=false->c.path.none)
def gV.right(c:gV):Prop:=
  (∀x∈c.props,x.right)∧(1<=c.group.length∧c.group.length<=16)∧(0<=c.nT∧c.nT<=1048576)∧(0<=c.Io∧c.Io<32)∧c.props.length<=16∧c.NG∧c.Ip.length=32∧c.NF.length=32
instance(p:rp):Decidable p.right:=by unfold rp.right;infer_instance
instance(p:gg):Decidable p.right:=by unfold gg.right;infer_instance
instance(p:ft):Decidable p.right:=by unfold ft.right;infer_instance
instance(p:ia):Decidable p.right:=by unfold ia.right;infer_instance
instance(p:ia):Decidable p.none:=by unfold ia.none;infer_instance
instance(c:gV):Decidable c.NG:=by unfold gV.NG;infer_instance
instance(c:gV):Decidable c.right:=by unfold gV.right;infer_instance
def eA(t:List cH):AV:=.sl 5 t.length (eb cH.cells t) .any
def iD(t:List cH):Prop:=t.length<=2^61∧∀n∈t,n.nS.length<=2^61∧n.key<2^64
def nd(t:List cH)(i:Nat):cH:=t.getD i cH.nr
theorem xQ{t:List cH}{i:Nat}(h:i<t.length):nd t i=t[i]:=by simp[nd,bm,h]
theorem iD.nd{t:List cH}(h:iD t)(i:Nat):(nd t i).nS.length<=2^61∧(nd t i).key<2^64:=by
  by_cases hi:i<t.length
  · rw[xQ hi];exact h.2 _ (bg hi)
  · have :Go.AM.nd t i=cH.nr:=(by simp[Go.AM.nd,bm,show t.length<=i by omega]);rw[this];exact⟨dM,dM⟩
theorem gL{t:List cH}{i:Nat}(h:i<t.length):aD 5 (aK (i*5) (eb cH.cells t))=(nd t i).cells:=by
  rw[xQ h];exact nv (k:=5) (fun _=>rfl) h
def ee(t:List cH):Nat:=if Fit ((t.length+1)/2)∧t.length=2*((t.length+1)/2)-1 then(t.length+1)/2 else 0
theorem fA{t:List cH}:ee t=0∨(Fit (ee t)∧t.length=2*ee t-1):=by
  unfold ee;split
  · rename_i h;exact .inr h
  · exact .inl rfl
theorem Ia(t:List cH):ee t<=32:=by
  rcases fA (t:=t) with h|h
  · omega
  · exact h.1.le.2
theorem SE{t:List cH}{i:Nat}(h:i<ee t):2*i<t.length:=by
  rcases fA (t:=t) with h0|h0
  · omega
  · omega
def j0(t:List cH)(i:Int):Prop:=0<=i∧i<(ee t:Int)∧(nd t (2*i.toNat)).kind=1
instance(t:List cH)(i:Int):Decidable (j0 t i):=by unfold j0;infer_instance
def gE(t:List cH)(i:Int):Prop:=0<=i∧2*i<(t.length:Int)∧(nd t (2*i.toNat)).kind=1
instance(t:List cH)(i:Int):Decidable (gE t i):=by unfold gE;infer_instance
theorem Ed{t:List cH}(h:ee t≠0)(i:Int):gE t i↔j0 t i:=by
  rcases fA (t:=t) with h0|h0
  · exact absurd h0 h
  · have:=h0.1.le;unfold gE j0;constructor<;>(rintro⟨a,b,c⟩;exact⟨a,oM,c⟩)
def mr(P:Int->Prop)[DecidablePred P](a:Nat):Nat->Nat
  |0=>0
  |k+1=>mr P a k+if P ((a+k:Nat):Int) then 1 else 0
theorem Iq(P:Int->Prop)[DecidablePred P](a:Nat):∀k,mr P a k<=k
  |0=>ax _
  |k+1=>by
    have:=Iq P a k;simp only[mr];split <;>omega
theorem xR{P Q:Int->Prop}[DecidablePred P][DecidablePred Q](h:∀i,P i↔Q i)(a:Nat):∀k,mr P a k=mr Q a k
  |0=>rfl
  |k+1=>by simp only[mr,xR h a k,h]
theorem Ee{P:Int->Prop}[DecidablePred P]{a:Nat}:∀{k},0<mr P a k↔∃j,j<k∧P ((a+j:Nat):Int)
  |0=>by simp[mr]
  |k+1=>by
    simp only[mr];constructor
    · intro h;by_cases hp:P ((a+k:Nat):Int)
      · exact⟨k,oM,hp⟩
      · rw[if_neg hp] at h;obtain⟨j,h1,h2⟩:=(Ee (k:=k)).1 oM;exact⟨j,oM,h2⟩
    · rintro⟨j,h1,h2⟩;by_cases e:j=k
      · rw[<-e,if_pos h2];omega
      · have:=(Ee (k:=k)).2 ⟨j,oM,h2⟩;omega
def fZ(P:Nat->Bool):Nat->Nat->Int
  |0,_=>-1
  |k+1,i=>if P i then(i:Int) else fZ P k (i+1)
theorem r3(P:Nat->Bool):∀k i,(fZ P k i= -1∧∀j,i<=j->j<i+k->P j=false)∨(∃j,i<=j∧j<i+k∧P j=true∧fZ P k i=(j:Int)∧∀m,i<=m->m<j->P m=false)
  |0,i=>.inl ⟨rfl,fun j h1 h2=>oM⟩
  |k+1,i=>by
    simp only[fZ];cases hp:P i with
    |true=>exact .inr ⟨i,ax _,oM,hp,sM,fun m h1 h2=>oM⟩
    |false=>
      simp only[Bool.false_eq_true,if_false];rcases r3 P k (i+1) with⟨h1,h2⟩|⟨j,h1,h2,h3,h4,h5⟩
      · refine .inl ⟨h1,fun j a b=>?_⟩;by_cases e:j=i
        · rw[e,hp]
        · exact h2 j oM oM
      · refine .inr ⟨j,oM,oM,h3,h4,fun m a b=>?_⟩;by_cases e:m=i
        · rw[e,hp]
        · exact h5 m oM b
theorem AZ(P:Nat->Bool)(k i:Nat):decide (0<=fZ P k i)=true↔∃j,i<=j∧j<i+k∧P j=true:=by
  rw[decide_eq_true_iff];rcases r3 P k i with⟨h1,h2⟩|⟨j,h1,h2,h3,h4,h5⟩
  · rw[h1];constructor
    · intro h;omega
    · rintro⟨j,a,b,c⟩;rw[h2 j a b] at c;cases c
  · rw[h4];exact⟨fun _=>⟨j,h1,h2,h3⟩,fun _=>oM⟩
def kS(t:List cH):Nat:=(t.length+1)/2
theorem Ef{t:List cH}{i:Nat}:i<kS t↔2*i<t.length:=by unfold kS;omega
def tR(t:List cH)(name:List UInt8)(a:Nat):Int:=fZ (fun j=>decide (j0 t j∧(nd t (2*j)).name=name)) (kS t-a) a
def xU(t:List cH)(name:List UInt8):Int:=fZ (fun j=>decide (gE t j∧(nd t (2*j)).name=name)) (kS t) 0
def vH(t:List cH)(i:Nat):Prop:=
  (nd t i).right∧((nd t i).kind=0∨((nd t i).kind=1↔i%2=0))∧∀u∈(nd t i).nS,(pr (i:Int)).1<=u∧u<=(pr (i:Int)).2∧j0 t u
instance(t:List cH)(i:Nat):Decidable (vH t i):=by unfold vH;infer_instance
def mO(t:List cH)(i:Nat):Prop:=vH t i∧(i%2=0->j0 t ((i/2:Nat):Int)->∀j,j<kS t->i/2<j->¬(j0 t (j:Int)∧(nd t (2*j)).name=(nd t i).name))
def eJ(t:List cH):Prop:=ee t≠0∧(∀i,i<t.length->mO t i)∧(ee t=1∨0<mr (j0 t) (ee t/2) (ee t-ee t/2))
instance(t:List cH)(i:Nat):Decidable (mO t i):=by unfold mO;infer_instance
instance(t:List cH):Decidable (eJ t):=by unfold eJ;infer_instance
theorem Eg(P:Int->Bool)(l:List Int):decide (0<=fZ (fun i=>P (l.getD i 0)) l.length 0)=l.any P:=by
  rw[Bool.eq_iff_iff,AZ,List.any_eq_true];constructor
  · rintro⟨j,_,h2,h3⟩;have hj:j<l.length:=oM;refine⟨l[j],bg hj,?_⟩;simpa[bm,hj] using h3
  · rintro⟨x,hx,hp⟩;obtain⟨j,hj,rfl⟩:=List.getElem_of_mem hx;exact⟨j,aA _,oM,by simpa[bm,hj] using hp⟩
theorem pA{P:Nat->Bool}{k i:Nat}(h:P i=false):fZ P (k+1) i=fZ P k (i+1):=by simp only[fZ,h];rfl
theorem pz{P:Nat->Bool}{k i:Nat}(h:P i=true):fZ P (k+1) i=(i:Int):=by simp only[fZ,h];rfl
theorem NH{t:List cH}{n:Nat}(h:Fit n)(hl:t.length=2*n-1):ee t=n:=by
  have:=h.le;unfold ee;rw[show(t.length+1)/2=n by omega];exact if_pos ⟨h,hl⟩
theorem Td{t:List cH}(h:∀n,Fit n->t.length≠2*n-1):ee t=0:=by
  unfold ee;rw[if_neg];rintro⟨a,b⟩;exact h _ a b
theorem We{j:Nat}(h:j<=5):Fit (2^j):=(by decide:∀j≤5,Fit (2^j)) j h
def zw(t:List cH)(i:Nat):Prop:=
  (nd t i).right∧((nd t i).kind=0∨((nd t i).kind=1↔i%2=0))∧((nd t i).kind=1->xU t (nd t i).name=((i/2:Nat):Int))∧∀u∈(nd t i).nS,(pr (i:Int)).1<=u∧u<=(pr (i:Int)).2∧gE t u
theorem BP{t:List cH}(name:List UInt8):(∃j,j<kS t∧gE t (j:Int)∧(nd t (2*j)).name=name∧xU t name=(j:Int)∧∀m,m<j->¬(gE t (m:Int)∧(nd t (2*m)).name=name))∨(xU t name= -1∧∀j,j<kS t->¬(gE t (j:Int)∧(nd t (2*j)).name=name)):=by
  rcases r3 (fun(j:Nat)=>decide (gE t (j:Int)∧(nd t (2*j)).name=name)) (kS t) 0 with⟨h1,h2⟩|⟨j,h1,h2,h3,h4,h5⟩
  · exact .inr ⟨h1,fun j hj=>of_decide_eq_false (h2 j (aA _) oM)⟩
  · obtain⟨h6,h7⟩:=of_decide_eq_true h3;exact .inl ⟨j,oM,h6,h7,h4,fun m hm=>of_decide_eq_false (h5 m (aA _) hm)⟩
theorem KV{t:List cH}(h0:ee t≠0):(∀i,i<t.length->zw t i)↔(∀i,i<t.length->mO t i):=by
  have hlen:t.length=2*ee t-1:=(fA.resolve_left h0).2;have hm:=Ed (t:=t) h0;have fN:∀i,zw t i->vH t i:=fun i ⟨a,b,_,d⟩=>⟨a,b,fun u hu=>⟨(d u hu).1,(d u hu).2.1,(hm u).1 (d u hu).2.2⟩⟩;constructor
  · intro h i hi;refine⟨fN i (h i hi),fun he UH j hj hij ⟨hmj,hnj⟩=>?_⟩;have h2j:2*j<t.length:=Ef.1 hj;have Wf:=(h (2*j) h2j).2.2.1 (by have:=hmj.2.2;rwa [aC] at this);rw[show 2*j/2=j by omega] at Wf;rcases BP (t:=t) (nd t (2*j)).name with⟨k,_,_,_,h4,h5⟩|⟨h4,_⟩
    · rw[Wf] at h4;refine h5 (i/2) oM ⟨(hm _).2 UH,?_⟩;rw[show 2*(i/2)=i by omega,hnj]
    · rw[Wf] at h4;omega
  · intro h i hi;obtain⟨⟨a,b,c⟩,_⟩:=h i hi;refine⟨a,b,fun hk=>?_,fun u hu=>⟨(c u hu).1,(c u hu).2.1,(hm u).2 (c u hu).2.2⟩⟩;have he:i%2=0:=by
      rcases b with b|b
      · omega
      · exact b.1 hk
    have kR:2*(i/2)=i:=oM;have UH:j0 t ((i/2:Nat):Int):=⟨oM,oM,by rw[aC,kR];exact hk⟩;rcases BP (t:=t) (nd t i).name with⟨k,h1,h2,h3,h4,h5⟩|⟨_,h5⟩
    · rw[h4];by_cases e:k=i/2
      · rw[e]
      · exfalso;by_cases fB:k<i/2
        · have hg:=(h (2*k) oM).2 oM (by rw[show 2*k/2=k by omega];exact(hm _).1 h2) (i/2) (by unfold kS;omega) oM;refine hg ⟨UH,?_⟩;rw[kR,h3]
        · exact h5 (i/2) oM ⟨(hm _).2 UH,by rw[kR]⟩
    · exact absurd ⟨(hm _).2 UH,by rw[kR]⟩ (h5 (i/2) (by unfold kS;omega))
structure OI where
  leaf:Int
  name:List UInt8
  deriving DecidableEq
def OI.cells(x:OI):List AV:=[.v (.int .i64 x.leaf),dm x.name .any]
theorem eJ.len{t:List cH}(h:eJ t):t.length=2*ee t-1∧Fit (ee t):=by
  have h1:=(fA.resolve_left h.1);exact⟨h1.2,h1.1⟩
theorem eJ.nd{t:List cH}(h:eJ t)(i:Nat):(nd t i).right:=by
  by_cases hi:i<t.length
  · exact(h.2.1 i hi).1.1
  · have :Go.AM.nd t i=cH.nr:=(by simp[Go.AM.nd,bm,show t.length<=i by omega]);rw[this];exact HR
theorem wh{n:Nat}(h:n<63)(hl:lv n=0):mD (n:Int)=none:=by unfold mD;rw[kN h,if_pos hl]
theorem se{n l:Nat}(h:n<63)(hl:lv n=l+1):mD (n:Int)=some (((n-2^l:Nat):Int),((n+2^l:Nat):Int))∧lv (n-2^l)=l∧lv (n+2^l)=l∧n+2^l<63∧2^l<=n∧2^l<=32:=by
  have key:∀n<63,lv n≠0->lv (n-2^(lv n-1))=lv n-1∧lv (n+2^(lv n-1))=lv n-1∧n+2^(lv n-1)<63∧2^(lv n-1)<=n∧2^lv n/2=2^(lv n-1)∧2^(lv n-1)<=32:=(by decide+kernel);obtain⟨k1,k2,k3,k4,k5,k6⟩:=key n h oM;rw[hl] at k1 k2 k3 k4 k5 k6;simp only[Nat.add_sub_cancel] at k1 k2 k3 k4 k5 k6;refine⟨?_,k1,k2,k3,k4,k6⟩;unfold mD;rw[kN h,if_neg oM,hl,k5];congr 2;omega
theorem Wg{L n:Nat}(h:Fit L)(hn:n<2*L-1):n+2^lv n<=2*L-1∧n<63:=by
  obtain⟨m,hm,rfl⟩:=h.pow;exact(by decide+kernel:∀m≤5,∀n<2*2^m-1,n+2^lv n<=2*2^m-1∧n<63) m hm n hn
theorem eJ.span{t:List cH}(h:eJ t){n:Nat}(hn:n<t.length):n+2^lv n<=t.length∧n<63:=by
  obtain⟨h1,h2⟩:=h.len;rw[h1] at hn⊢;exact Wg h2 hn
def n9(skip:List Int)(l:List Int):List Int:=(l.filter fun u=>decide (u∉skip)).map fun u=>2*u
def p6(skip:List Int)(N:cH)(n:Nat):List Int:=if(N.kind=1∧((n/2:Nat):Int)∉skip)∨N.kind=2 then[(n:Int)] else[]
def lU(t:List cH)(skip:List Int):Nat->Nat->List Int
  |0,n=>p6 skip (nd t n) n++n9 skip (nd t n).nS
  |l+1,n=>if(nd t n).kind=0 then lU t skip l (n-2^l)++lU t skip l (n+2^l) else p6 skip (nd t n) n++n9 skip (nd t n).nS
theorem sT{N:cH}(h:N.right):N.nS.length<=32∧∀u∈N.nS,0<=u∧u<32:=by
  rcases oN h with hk|hk|hk
  · rw[(qY hk).1 h];exact⟨dM,(by intro u hu;cases hu)⟩
  · have:=((lk hk).1 h).2.2.2;rw[al this];exact⟨dM,(by intro u hu;cases hu)⟩
  · have:=((me hk).1 h).2.2;exact⟨tF this,fun u hu=>xA this hu⟩
theorem zx(skip l:List Int):(n9 skip l).length<=l.length:=by
  unfold n9;rw[aj];exact List.length_filter_le _ _
theorem GI{skip l:List Int}{i:Nat}(h:i<l.length):n9 skip (l.take (i+1))=n9 skip (l.take i)++if l[i]∉skip then[2*l[i]] else[]:=by
  unfold n9;rw[af h,List.filter_append,aH];congr 1;by_cases hs:l[i]∉skip
  · rw[if_pos hs];simp[hs]
  · rw[if_neg hs];simp[hs]
theorem wj(skip:List Int)(N:cH)(n:Nat):(p6 skip N n).length<=1:=by
  unfold p6;split <;>simp
theorem mZ{t:List cH}(hr:eJ t)(skip:List Int):∀l n,(lU t skip l n).length<=33*2^l
  |0,n=>by
    have h1:=wj skip (nd t n) n;have h2:=zx skip (nd t n).nS;have h3:=(sT (hr.nd n)).1;simp only[lU,ai];omega
  |l+1,n=>by
    have hp:=Nat.two_pow_pos l;have SF:2^(l+1)=2^l+2^l:=(by rw[cj];omega);simp only[lU];split
    · have h1:=mZ hr skip l (n-2^l);have h2:=mZ hr skip l (n+2^l);rw[ai];omega
    · have h1:=wj skip (nd t n) n;have h2:=zx skip (nd t n).nS;have h3:=(sT (hr.nd n)).1;rw[ai];omega
def ff(t:List cH)(x:Int)(skip:List Int):List Int:=if 0<=x∧x<(t.length:Int)∧eJ t then lU t skip (lv x.toNat) x.toNat else[]
open Go Go.RowKit
def BR:AV->Option Nat
  |.jd o _ _ _ _=>some o
  |_=>none
def mP(p:cH×AV):List AV:=[.v (.int .i64 p.1.kind),dm p.1.name .any,.v (.int .u64 p.1.key),dm p.1.parent .any,p.2]
theorem NJ(p:cH×AV):(mP p).length=5:=rfl
theorem oS(n:cH):n.cells.length=5:=rfl
theorem sH.le{sz n:Nat}{x:AV}{cs:List AV}{s s':AS}(h:sH sz s x n cs)(k:s.le s'):sH sz s' x n cs:=by
  rcases h with h|⟨o,cap,rest,h1,h2,h3⟩
  · exact .inl h
  · exact .inr ⟨o,cap,rest,h1,k.dD _ _ h2,h3⟩
theorem sH.sB{sz n:Nat}{x:AV}{cs:List AV}{s:AS}{o:Nat}{ds:List AV}(h:sH sz s x n cs)(k:BR x≠some o):sH sz (s.set o ds) x n cs:=by
  rcases h with h|⟨o',cap,rest,rfl,h2,h3⟩
  · exact .inl h
  · exact .inr ⟨o',cap,rest,rfl,by rw[AS.cO _ (fun e=>k (by rw[e];rfl))];exact h2,h3⟩
theorem sH.Wh{sz n:Nat}{x:AV}{cs:List AV}{s:AS}{o:Nat}(h:sH sz s x n cs)(k:BR x≠some o):sH sz (s.drop o) x n cs:=by
  rcases h with h|⟨o',cap,rest,rfl,h2,h3⟩
  · exact .inl h
  · exact .inr ⟨o',cap,rest,rfl,by rw[AS.Ag,lE _ _ (fun e=>k (by rw[e];rfl))];exact h2,h3⟩
theorem sH.some{sz n:Nat}{x:AV}{cs:List AV}{s:AS}{o:Nat}(h:sH sz s x n cs)(k:BR x=some o):∃ds,s.dD o=some ds:=by
  rcases h with⟨_,_,rfl|rfl|rfl⟩|⟨o',cap,rest,rfl,h2,h3⟩
  · cases k
  · cases k
  · cases k
  · cases k;exact⟨_,h2⟩
theorem Eh{sz:Nat}{sp:Sp}(h:sp=.full∨sp=.new):(AV.sl sz 0 [] sp).dV (.sl sz 0 [] .any):=by
  intro G u hv;simp only[dQ] at hv⊢;rcases hv with⟨b,off,cap,vs,h1,h2,h3,h4,h5,h6⟩|⟨_,_,a,cap,h1,_⟩|⟨_,_,h1,_⟩
  · exact .inl ⟨b,off,cap,vs,h1,h2,h3,h4,h5,trivial⟩
  · exact .inr (.inl ⟨trivial,trivial,a,cap,h1,sM⟩)
  · rcases h with rfl|rfl<;>cases h1
structure ZW(s0 s:AS)(T:List (cH×AV)):Prop where
  buf:∀p∈T,sH 1 s p.2 p.1.nS.length (p.1.nS.map ed)
  new:∀p∈T,∀o,BR p.2=some o->s0.dD o=none
  sep:T.Pairwise fun p q=>∀o,BR p.2=some o->BR q.2≠some o
structure ux(s0 s:AS)(X:AV)(T:List (cH×AV)):Prop where
  xs:ZW s0 s T
  le:s0.le s
  row:sH 5 s X T.length (eb mP T)
  Wi:∀O,BR X=some O->s0.dD O=none
  ZX:∀O,BR X=some O->∀p∈T,BR p.2≠some O
theorem AS.le_none{s s':AS}(h:s.le s'){o:Nat}(k:s'.dD o=none):s.dD o=none:=by
  cases hs:s.dD o with
  |none=>rfl
  |some cs=>rw[h.dD _ _ hs] at k;cases k
theorem ux.nil(s:AS):ux s s eW []:=
  ⟨⟨fun p hp=>absurd hp (List.not_mem_nil),fun p hp=>absurd hp (List.not_mem_nil),.nil⟩,.refl s,.inl ⟨rfl,rfl,.inl rfl⟩,(fun O h=>by cases h),(fun O h=>by cases h)⟩
theorem ux.push{s0 s:AS}{X:AV}{T:List (cH×AV)}{p:cH×AV}{ob cap:Nat}{rest:List AV}(h:ux s0 s X T)(hb:sH 1 s p.2 p.1.nS.length (p.1.nS.map ed))
    (h1:∀o,BR p.2=some o->s0.dD o=none∧(∀q∈T,BR q.2≠some o)∧BR X≠some o) (h2:s.dD ob=none∨∃xx,X=.jd ob 0 5 T.length xx) (h3:T.length+1<=cap) (h4:cap<2^63) (h5:rest.length=(cap-(T.length+1))*5):
    ux s0 (s.set ob (eb mP T++mP p++rest)) (.jd ob 0 5 (T.length+1) cap) (T++[p]):=by
  have xcE:s0.dD ob=none:=by
    rcases h2 with h2|⟨xx,h2⟩
    · exact AS.le_none h.le h2
    · exact h.Wi ob (by rw[h2];rfl)
  have gP:∀q∈T++[p],BR q.2≠some ob:=by
    intro q hq e;rw[cu,cg] at hq;rcases h2 with h2|⟨xx,h2⟩
    · have :∃ds,s.dD ob=some ds:=by
        rcases hq with hq|rfl
        · exact(h.xs.buf q hq).some e
        · exact hb.some e
      rw[h2] at this;obtain⟨ds,hd⟩:=this;cases hd
    · have hX:BR X=some ob:=(by rw[h2];rfl);rcases hq with hq|rfl
      · exact h.ZX ob hX q hq e
      · exact(h1 ob e).2.2 hX
  refine⟨⟨fun q hq=>?_,fun q hq o ho=>?_,?_⟩,AS.dW h.le xcE _,.inr ⟨ob,cap,rest,by rw[ai];rfl,by rw[AS.bG,Tc],?_,by rw[ai];exact h5,by rw[ai];exact h3,h4⟩,fun O hO=>?_,fun O hO q hq=>?_⟩
  · have LW:=hq;rw[cu,cg] at hq;rcases hq with hq|rfl
    · exact(h.xs.buf q hq).sB (gP q LW)
    · exact hb.sB (gP q LW)
  · rw[cu,cg] at hq;rcases hq with hq|rfl
    · exact h.xs.new q hq o ho
    · exact(h1 o ho).1
  · rw[List.pairwise_append];refine⟨h.xs.sep,List.pairwise_singleton _ _,fun a ha b RH o ho=>?_⟩;rw[cg] at RH;subst RH;intro e;exact(h1 o e).2.1 a ha ho
  · exact gU NJ _
  · cases hO;exact xcE
  · cases hO;exact gP q hq
theorem Qp{s0:AS}{O:Nat}{rest:List AV}(Q5:s0.dD O=none)(x:AV):∀(B:List (cH×AV))(A:List cH)(s:AS),ZW s0 s B->s0.le s->(∀p∈B,BR p.2≠some O)->s.dD O=some (eb cH.cells A++eb mP B++rest)->
    ∃s',gj Γ s x s' x∧s'.dD O=some (eb cH.cells (A++B.map (·.1))++rest)∧s0.le s':=by
  intro B;induction B with
  |nil=>
    intro A s _ hle _ hO;refine⟨s,.refl x,?_,hle⟩;simpa[eb] using hO
  |cons p B ih=>
    intro A s hx hle gP hO;have ZY:eb cH.cells A++eb mP (p::B)++rest=(eb cH.cells A++[.v (.int .i64 p.1.kind),dm p.1.name .any,.v (.int .u64 p.1.key),dm p.1.parent .any])++p.2::(eb mP B++rest):=by
      simp[eb,mP]
    rw[ZY] at hO;have Yg:(eb cH.cells A++[.v (.int .i64 p.1.kind),dm p.1.name .any,.v (.int .u64 p.1.key),dm p.1.parent .any])++ea p.1.nS .any::(eb mP B++rest)=eb cH.cells (A++[p.1])++eb mP B++rest:=by
      simp[eb,cH.cells]
    have xcF:=List.pairwise_cons.1 hx.sep;have hp:p∈p::B:=List.mem_cons_self;have GJ:∀s':AS,(∀q∈B,sH 1 s' q.2 q.1.nS.length (q.1.nS.map ed))->ZW s0 s' B:=fun s' h=>⟨h,fun q hq=>hx.new q (aQ _ hq),xcF.2⟩;rcases hx.buf p hp with⟨h0,zX,hv⟩|⟨o,cap,rs,hv,ho,mQ,Ax,Hf,I6⟩
    · have hw:p.2.dV (ea p.1.nS .any):=by
        have hu:p.1.nS=[]:=al h0;rw[hu];rcases hv with hv|hv|hv
        · rw[hv];exact AV.eh
        · rw[hv];exact Eh (.inl rfl)
        · rw[hv];exact Eh (.inr rfl)
      have h1:=gj.cells (Γ:=Γ) x hO hw;rw[Yg] at h1;obtain⟨s',k1,k2,k3⟩:=ih (A++[p.1]) _ (GJ _ fun q hq=>(hx.buf q (aQ _ hq)).sB (gP q (aQ _ hq))) (AS.dW hle Q5 _) (fun q hq=>gP q (aQ _ hq)) (AS.bG _ _ _);refine⟨s',h1.trans k1,?_,k3⟩;simpa using k2
    · have hpo:BR p.2=some o:=(by rw[hv];rfl);have hOo:O≠o:=fun e=>gP p hp (by rw[hpo,e]);rw[hv] at hO;have h1:=gj.inner (Γ:=Γ) x hO ho hOo mQ;have e:(AV.sl 1 p.1.nS.length (p.1.nS.map ed) .any)=ea p.1.nS .any:=rfl;rw[e,Yg] at h1;obtain⟨s',k1,k2,k3⟩:=ih (A++[p.1]) _ (GJ _ fun q hq=>((hx.buf q (aQ _ hq)).Wh (xcF.1 q hq o hpo)).sB (gP q (aQ _ hq))) (AS.dW (AS.th hle (hx.new p hp o hpo)) Q5 _) (fun q hq=>gP q (aQ _ hq)) (AS.bG _ _ _);refine⟨s',h1.trans k1,?_,k3⟩;simpa using k2
theorem eo.drewN(h:eo Γ G s w):∀q,eo Γ G s (w.drewN q)
  |0=>h
  |q+1=>(eo.drewN h q).drew
open Go Go.RowKit Go.Shelf Go.Proofs Go.Sort
theorem eo.grow(h:eo Γ G s w)(os:Array Obj):eo Γ G s (Go.Sort.grow w os):=by
  refine h.ext ?_;exact(Below.refl _ _).grown (row:=none) ⟨rfl,rfl,rfl,sM,fun i hi _=>by simp[Go.Sort.grow,Array.getElem?_append,hi]⟩ (ax _) (fun i e=>by cases e)
theorem NK{ρ:Ren}(L:Lays.n189 P ρ){o cap:Nat}{l:List Int}{rest:List AV}(hl:l.length<4611686018427387904)(ho:s.dD o=some (l.map ed++rest)):
    dS P Γ (ρ.f 189) [.jd o 0 1 l.length cap] s (fun r s'=>r=.v (.tuple #[])∧s'=s.set o ((l.mergeSort fun x y=>decide (x<=y)).map ed++rest)):=by
  intro G w vs hsr hv;simp only[dP] at hv;obtain⟨u,us,rfl,hx,rfl⟩:=hv;simp only[dQ] at hx;obtain⟨b,Cw,rfl,hn⟩:=hx;obtain⟨b',vs,q1,q2,q3,q4⟩:=hsr.dD o _ ho;rw[Cw] at q1;cases q1;have hvt:=q2.take (l.map ed).length;rw[List.take_left] at hvt;have hvt:=dP.OG hvt;have hH:Holds (dw .i64) w b 0 l.toArray:=by
    intro j hj;have nH:j<l.length:=(by simpa using hj);rw[Nat.zero_add];have :vs[j]? =some (dw .i64 l.toArray[j]!):=by
      have h1:(vs.take (l.map ed).length)[j]? =some (ND l[j]):=(by rw[hvt];simp[nH]);rw[aF] at h1;split at h1
      · rw[h1];simp[ND,nH]
      · cases h1
    exact⟨(q4 j _ this).1,(q4 j _ this).2.1⟩
  refine(calls_of_every_depth fun D=>AnyS.slices_Sort_int_in L D b 0 cap l w hH (hsr.ib o b Cw) hl).mono ?_;rintro e w' ⟨rfl,n,os,rfl⟩;rw[Go.Lib.putRow_eq_setCells (dw .i64) w b 0 l.toArray _ n hH sM];have vP:(l.mergeSort fun x y=>decide (x<=y)).length=l.length:=sM;generalize (l.mergeSort fun x y=>decide (x<=y))=m at vP⊢;obtain⟨_,_,f3⟩:=qe (hsr.drewN n) ho Cw (off:=0) (ds:=m.map ed) (us:=m.map ND) (by simp;omega) (dP.ints _);have ha:=vl (m.map ed) [] (l.map ed++rest) (by simp;omega);simp only[List.nil_append,aX,aj,vP] at ha;rw[show(l.map ed++rest).drop l.length=rest by rw[List.drop_append_of_le_length sM];simp] at ha;rw[ha] at f3;exact⟨G,.v (.tuple #[]),_,_,rfl,.refl G,eo.grow f3 os,by simp[dQ],rfl,rfl⟩
end Go.AM
namespace Go.Proofs.YtbiefppedlodiaaGreatDoor
open Go Go.AM Go.Proofs Tryz
variable{Γ:Nat->List AV}
def xgM:Go.Shelf.Ren:=⟨fun |125=>194|128=>229|129=>230|189=>159|215=>248|216=>226|257=>193|294=>220|295=>221|296=>222|297=>223|298=>224|299=>225|300=>227|301=>228|328=>243|329=>244|330=>245|331=>246|332=>247|343=>254|n=>n,fun |28=>24|46=>185|51=>214|53=>29|131=>119|182=>239|183=>240|218=>257|222=>260|228=>266|229=>58|n=>n,fun n=>n⟩
theorem xcG:Lays.n189 prog xgM where
  mixed:=kM
  f125:=(func194).trans (congrArg some kM)
  f128:=(func229).trans (congrArg some kM)
  f129:=(func230).trans (congrArg some kM)
  f189:=(func159).trans (congrArg some kM)
  f215:=(func248).trans (congrArg some kM)
  f216:=(func226).trans (congrArg some kM)
  f257:=(func193).trans (congrArg some kM)
  f294:=(func220).trans (congrArg some kM)
  f295:=(func221).trans (congrArg some kM)
  f296:=(func222).trans (congrArg some kM)
  f297:=(func223).trans (congrArg some kM)
  f298:=(func224).trans (congrArg some kM)
  f299:=(func225).trans (congrArg some kM)
  f300:=(func227).trans (congrArg some kM)
  f301:=(func228).trans (congrArg some kM)
  f328:=(func243).trans (congrArg some kM)
  f329:=(func244).trans (congrArg some kM)
  f330:=(func245).trans (congrArg some kM)
  f331:=(func246).trans (congrArg some kM)
  f332:=(func247).trans (congrArg some kM)
  f343:=(func254).trans (congrArg some kM)
  t0:=underlying0
  a0:=isAgg0
  z0:=sizeOf0
  v0:=zeroValue0
  t3:=underlying3
  a3:=isAgg3
  z3:=sizeOf3
  v3:=zeroValue3
  t4:=underlying4
  a4:=isAgg4
  z4:=sizeOf4
  v4:=zeroValue4
  t5:=underlying5
  a5:=isAgg5
  z5:=sizeOf5
  v5:=zeroValue5
  t9:=underlying9
  a9:=isAgg9
  z9:=sizeOf9
  v9:=zeroValue9
  t28:=underlying24
  a28:=isAgg24
  z28:=sizeOf24
  v28:=zeroValue24
  t46:=underlying185
  a46:=isAgg185
  z46:=sizeOf185
  v46:=zeroValue185
  t51:=underlying214
  a51:=isAgg214
  z51:=sizeOf214
  v51:=zeroValue214
  t53:=underlying29
  a53:=isAgg29
  z53:=sizeOf29
  v53:=zeroValue29
  t131:=underlying119
  a131:=isAgg119
  z131:=sizeOf119
  v131:=zeroValue119
  t182:=underlying239
  a182:=isAgg239
  z182:=sizeOf239
  v182:=zeroValue239
  t183:=underlying240
  a183:=isAgg240
  z183:=sizeOf240
  v183:=zeroValue240
  t218:=underlying257
  a218:=isAgg257
  z218:=sizeOf257
  v218:=zeroValue257
  t222:=underlying260
  a222:=isAgg260
  z222:=sizeOf260
  v222:=zeroValue260
  t228:=underlying266
  a228:=isAgg266
  z228:=sizeOf266
  v228:=zeroValue266
  t229:=underlying58
  a229:=isAgg58
  z229:=sizeOf58
  v229:=zeroValue58
theorem Te{o cap:Nat}{l:List Int}{rest:List AV}{s:AS}(hl:l.length<4611686018427387904)(ho:s.dD o=some (l.map ed++rest)):
    dS prog Γ 159 [.jd o 0 1 l.length cap] s (fun r s'=>r=.v (.tuple #[])∧s'=s.set o ((l.mergeSort fun x y=>decide (x<=y)).map ed++rest)):=
  NK xcG hl ho
def Wj(s s':AS)(r:AV)(l:List Int):Prop:=sH 1 s' r l.length (l.map ed)∧(l=[]->r=eW)∧(∀o,BR r=some o->s.dD o=none)∧s.le s'
def xgN(s:AS)(o1:Nat)(l:List Int)(s':AS):Prop:=∃x,s'.dD o1=some [x]∧Wj s s' x l∧BR x≠some o1
theorem Ch{gf:FuncId}{gh:List AV}{l:List Int}(QY:b7 prog gf=true)(QZ:Bx prog Γ gf gh (l.map fun v=>[ed v]))(hl:l.length<=2^40)(s:AS):
  dS prog Γ 192 [eW,.wm gf gh] s (fun r s'=>Wj s s' r l):=by
 refine Dq func192 rfl ntmps192 results192 sM ?_;unfold eW;refine vV ?_;intro K hK;refine jM ?_;intro o1 h1;refine hK _ _<|wO dM ?_;intro K hK;refine jR hK ?_;refine⟨gf,gh,l.map fun v=>[ed v],fun i s'=>xgN s o1 (l.take i) s',by simp only[ef,dY,eV,List.getD_cons_zero,List.getD_cons_succ,Nc,↓reduceIte],QY,QZ,sM,?_,?_,?_⟩
 ·refine⟨eW,by simp[AS.set,eW],⟨.inl ⟨sM,sM,.inl rfl⟩,fun _=>rfl,by simp[eW,BR],AS.dW (AS.le.refl s) h1 _⟩,by simp[eW,BR]⟩
 ·rintro i x s1 hx ⟨b,Cw,⟨sr,wo,qL,hle⟩,gP⟩;obtain⟨v,hv,rfl⟩:∃v,l[i]? =some v∧x=[ed v]:=by
   rw[aN] at hx;cases hh:l[i]? with
   |none=>rw[hh] at hx;cases hx
   |some v=>rw[hh] at hx;cases hx;exact⟨v,rfl,rfl⟩
  have hi:i<l.length:=(List.getElem?_eq_some_iff.1 hv).1;have hlen:(l.take i).length=i:=(by simp;omega);have pL:b.one=true:=by
   rcases sr with⟨_,_,rfl|rfl|rfl⟩|⟨_,_,_,rfl,_⟩<;>rfl
  simp only[Fm];refine jC ?_;refine⟨rfl,dH ?_⟩;refine B7 rfl dM ?_;intro ops;refine jN @Cw ?_;rw[hlen] at sr;refine⟨_,fun G a w hr=>nR (n:=i) (m:=1) (cs:=(l.take i).map ed) (ds:=[ed v]) (e:=3) (z:=[.v (.int .i64 0)]) rfl underlying24 (by simp only[↓DN,Qa,Qb,Qc,Qd,Qe,Qf,Qg,Qh,seval,TT];try rfl) (by simp only[↓DN,Qa,Qb,Qc,Qd,Qe,Qf,Qg,Qh,seval,TT];try rfl) (by rw[T.c3];decide) (by rw[T.c3];rfl) (by rw[T.c3];simp only[↓DN,Qa,Qb,Qc,Qd,Qe,Qf,Qg,Qh,seval,TT,nL,ef,dY,Nc,↓reduceIte];rfl) dM (by rw[T.b3];omega) oM rfl (by rw[T.c3];simpa only[ef,dY,Nc,↓reduceIte] using sr) hr.eval hr.st,?_⟩;rw[T.c3];rintro r s4 ⟨ob,cap,rest,rfl,mV,I6,Ax,ZZ,rfl⟩;simp only[ef,dY,Nc,↓reduceIte] at ZZ;have Z1:o1≠ob:=by
   rintro rfl;rcases ZZ with h|⟨xx,rfl⟩
   ·rw[Cw] at h;cases h
   ·exact gP rfl
  have Yh:s.dD ob=none:=by
   rcases ZZ with h|⟨xx,rfl⟩
   ·exact AS.le_none hle h
   ·exact qL ob rfl
  have ir:(l.take i).map ed++[ed v]=(l.take (i+1)).map ed:=by
   rw[List.take_add_one,hv];simp
  rw[ir];have Z2:(s1.set ob ((l.take (i+1)).map ed++rest)).dD o1=some [b]:=by
   rw[AS.cO _ Z1];exact Cw
  refine jN @Z2 ?_;refine⟨_,AS.bG _ _ _,⟨.inr ⟨ob,cap,rest,by rw[show(l.take (i+1)).length=i+1 by simp;omega],?_,sM,by rw[show(l.take (i+1)).length=i+1 by simp;omega];exact Ax,by rw[show(l.take (i+1)).length=i+1 by simp;omega];exact mV,I6⟩,?_,?_,AS.dW (AS.dW hle Yh _) h1 _⟩,?_⟩
  ·rw[AS.cO _ Z1.symm,AS.bG]
  ·intro h;have:=congrArg List.length h;rw[aV,aX] at this;omega
  ·intro o h;simp only[BR,aU] at h;rw[<-h];exact Yh
  ·simp only[BR,ne_eq,aU];exact Z1.symm
 ·rintro s2 ⟨x,hx1,hx2,-⟩;rw[aj,cB] at hx2;refine jB @hx1 ?_;refine jI ?_;exact⟨_,_,AV.dV.refl _,AS.le.refl _,hx2⟩
theorem FI{gf:FuncId}{gh:List AV}{l:List Int}(QY:b7 prog gf=true)(QZ:Bx prog Γ gf gh (l.map fun v=>[ed v]))(hl:l.length<=2^40)(s:AS):
  dS prog Γ 158 [.wm gf gh] s (fun r s'=>Wj s s' r l):=by
 refine xH func158 ntmps158 results158 ?_;refine jA ?_;refine jQ fun K hK=>?_;refine b6 (Ch QY QZ hl _) ?_;rintro r s2 h2;refine jR hK ?_;refine jI ?_;exact⟨_,_,AV.dV.refl _,AS.le.refl _,h2⟩
theorem Ei(s:AS):dS prog Γ 230 [.v (.int .u64 0)] s (fun r s'=>(∃k:Int,r=.v (.int .i64 k))∧s'=s):=by
 refine xH func230 ntmps230 results230 ?_;refine xKw fun K hK=>?_;refine gW ?_;refine hK _ _<|Q3 fun K hK=>?_;refine hK _ _<|Q3 fun K hK=>?_;refine hK _ _<|wq ?_;exact⟨_,_,AV.dV.refl _,AS.le.refl _,⟨_,rfl⟩,rfl⟩
theorem Ir(s:AS):dS prog Γ 194 [.v (.int .u64 0)] s (fun r s'=>(∃k:Int,r=.v (.int .i64 k))∧s'=s):=by
 refine xH func194 ntmps194 results194 ?_;refine yd fun K hK=>?_;refine gW ?_;refine hK _ _<|jQ fun K hK=>?_;refine b6 (Ei _) ?_;rintro r s2 ⟨⟨k,rfl⟩,rfl⟩;refine jR hK ?_;refine jI ?_;exact⟨_,_,AV.dV.refl _,AS.le.refl _,⟨_,rfl⟩,rfl⟩
theorem Is(s:AS):aI prog Γ 220 [eW,.v (.int .i64 0),.v (.int .i64 0)] s (.ka []):=by
 refine xH func220 ntmps220 results220 ?_;refine xKl ?_;refine dU (fun E s'=>E 2=.v (.int .i64 0)∧E 6=.v (.int .i64 1)∧s'=s) (fun _ _=>0) ⟨rfl,rfl,rfl⟩ ?_;rintro E s' ⟨e2,e6,rfl⟩ -
 refine wK fun K2 eH=>jB (Ai @e2 @e6) ?_;refine sI ?_;simp only[dJ,dn,if_true];simp only[fX,fe,fq,iu,ah,↓eL];try simp only[UP,DF,Nc,↓reduceIte,DT]
 exact jW ⟨rfl,rfl⟩
theorem It(k:Int)(s:AS):aI prog Γ 193 [eW,.v (.int .i64 0),.v (.int .i64 0),.v (.int .i64 k)] s (.ka []):=by
 refine xH func193 ntmps193 results193 ?_;unfold eW;refine Zi ?_;refine dH<|dU (fun E s'=>E 0=.v (.slice none 0 0)∧E 1=.v (.int .i64 0)∧E 2=.v (.int .i64 0)∧s'=s) (fun _ _=>0) ⟨rfl,rfl,rfl,rfl⟩ ?_;rintro E s' ⟨e0,e1,e2,rfl⟩ -
 refine dH<|jB (Ai @e1 @e2) ?_;refine wK fun K2 eH=>jB (Ai (show gR .i64 0 0=(0:Int) from rfl) (show(decide ((0:Int)<=12))=true from rfl)) ?_;refine jE<|jS (Ai @e0 (Ai @e1 @e2)) fun K hK=>?_;refine b6 (Is _) ?_;rintro r s2 ⟨rfl,rfl⟩;refine jR hK ?_;refine eF ?_;simp only[dJ,dn];simp only[fX,fe,fq,iu,ah,↓eL];try simp only[UP,DF,Nc,↓reduceIte,DT]
 exact jW ⟨rfl,rfl⟩
theorem FJ(s:AS):aI prog Γ 159 [eW] s (.ka []):=by
 refine xH func159 ntmps159 results159 ?_;unfold eW;refine jA ?_;refine jT fun K hK=>?_;refine b6 (Ir _) ?_;rintro r s2 ⟨⟨k,rfl⟩,rfl⟩;refine jM ?_;refine b6 (It k _) ?_;rintro r s3 ⟨rfl,rfl⟩;refine jR hK ?_;simp only[fX,fe,fq,iu,ah,↓eL];try simp only[UP,DF,Nc,↓reduceIte,DT]
 exact jW ⟨rfl,rfl⟩
theorem Iu{gf:FuncId}{gh:List AV}{l:List Int}(QY:b7 prog gf=true)(QZ:Bx prog Γ gf gh (l.map fun v=>[ed v]))(hl:l.length<=2^40)(s:AS):
  dS prog Γ 111 [.wm gf gh] s (fun r s'=>Wj s s' r (l.mergeSort fun x y=>decide (x<=y))):=by
 refine xH func111 ntmps111 results111 ?_;refine jA ?_;refine jQ fun K hK=>?_;refine b6 (FI QY QZ hl _) ?_;rintro r s2 ⟨sr,wo,qL,hle⟩;rcases List.eq_nil_or_concat l with rfl|⟨l',v,Ka⟩
 ·obtain rfl:=wo rfl;refine jR hK ?_;clear hK K;refine jK (FJ _) ?_;rintro s3 rfl;refine wq ?_;exact jW ⟨by simpa using sr,fun _=>rfl,qL,hle⟩
 ·have Al:0<l.length:=(by rw[Ka];simp);have vP:(l.mergeSort fun x y=>decide (x<=y)).length=l.length:=sM;rcases sr with⟨h0,_,_⟩|⟨o,cap,rest,rfl,ho,mQ,Ax,Hf,I6⟩
  ·omega
  ·refine jR hK ?_;refine jK (Te oM ho) ?_;rintro s3 rfl;refine wq ?_;have hn:s.dD o=none:=qL o rfl;refine⟨_,_,AV.dV.refl _,AS.le.refl _,.inr ⟨o,cap,rest,by rw[vP],AS.bG _ _ _,sM,by rw[vP];exact Ax,by rw[vP];exact Hf,I6⟩,?_,qL,AS.dW hle hn _⟩;intro h;rw[h] at vP;simp only[aX] at vP;omega
end Go.Proofs.YtbiefppedlodiaaGreatDoor
namespace Go.AM
open Go Go.RowKit
def pV(n l:Nat):List Nat:=(jl 6 n l).reverse++[n]
def qq(n l:Nat):Nat->Nat×Nat
  |0=>(0,2*l-2)
  |j+1=>let s:=qq n l j;let uJ:=(s.1+s.2)/2;if n<uJ then(s.1,uJ-1) else(uJ+1,s.2)
theorem NL{n l:Nat}(hl:Fit l)(h:n<2*l-1){j:Nat}(hj:j<(pV n l).length):
    (pV n l)[j]? =some (((qq n l j).1+(qq n l j).2)/2)∧(j+1=(pV n l).length↔n=((qq n l j).1+(qq n l j).2)/2)∧(qq n l j).1+(qq n l j).2<=200:=by
  obtain⟨m,hm,rfl⟩:=hl.pow;exact(by decide+kernel:∀m≤5,∀n<2*2^m-1,∀j<(pV n (2^m)).length,(pV n (2^m))[j]? =some (((qq n (2^m) j).1+(qq n (2^m) j).2)/2)∧(j+1=(pV n (2^m)).length↔n=((qq n (2^m) j).1+(qq n (2^m) j).2)/2)∧(qq n (2^m) j).1+(qq n (2^m) j).2<=200) m hm n h j hj
theorem KW{n l:Nat}(hl:Fit l)(h:n<2*l-1):(pV n l).length<=6∧(n≠l-1->2<=(pV n l).length∧(pV n l)[(pV n l).length-2]? =some (uf n)):=by
  obtain⟨m,hm,rfl⟩:=hl.pow;exact(by decide+kernel:∀m≤5,∀n<2*2^m-1,(pV n (2^m)).length<=6∧(n≠2^m-1->2<=(pV n (2^m)).length∧(pV n (2^m))[(pV n (2^m)).length-2]? =some (uf n))) m hm n h
def fE(n:Nat):Nat:=if n<uf n then uf n+hf (uf n) else uf n-hf (uf n)
theorem we{n l:Nat}(hl:Fit l)(h:n<2*l-1)(hr:n≠l-1):uf n<63∧lv (uf n)≠0∧hf (uf n)<=uf n∧(n<uf n↔uf n-hf (uf n)=n)∧fE n<2*l-1:=by
  obtain⟨m,hm,rfl⟩:=hl.pow;exact((by decide+kernel:∀m≤5,∀n<2*2^m-1,n=2^m-1∨(uf n<63∧lv (uf n)≠0∧hf (uf n)<=uf n∧(n<uf n↔uf n-hf (uf n)=n)∧fE n<2*2^m-1)) m hm n h).resolve_left hr
theorem KX{u:Nat}(hu:u<63)(h0:lv u≠0)(hh:hf u<=u):mD (u:Int)=some (((u-hf u:Nat):Int),((u+hf u:Nat):Int)):=by
  unfold mD;rw[kN hu,if_neg h0];simp only[hf] at hh⊢;simp only[aU,Prod.mk.injEq];omega
theorem rn{leaf l:Nat}(hl:Fit l)(h:leaf<l){i:Nat}(hi:i<(dR leaf l).length):nodeAt leaf l i<2*l-1∧nodeAt leaf l i≠l-1∧uf (nodeAt leaf l i)=(dR leaf l).getD i 0:=by
  obtain⟨m,hm,rfl⟩:=hl.pow;exact(by decide+kernel:∀m≤5,∀leaf<2^m,∀i<(dR leaf (2^m)).length,nodeAt leaf (2^m) i<2*2^m-1∧nodeAt leaf (2^m) i≠2^m-1∧uf (nodeAt leaf (2^m) i)=(dR leaf (2^m)).getD i 0) m hm leaf h i hi
def gT(leaf l:Nat):List Nat:=(aq (dR leaf l).length).map fun i=>fE (nodeAt leaf l i)
end Go.AM
namespace Go.Proofs.YtbiefppedlodiaaGreatDoor
open Go Go.AM Go.Proofs Tryz
variable{Γ:Nat->List AV}
theorem Iv(n l:Nat)(hl:Fit l)(hn:n<2*l-1)(s:AS):aI prog Γ 116 [.v (.int .i64 ((n:Nat):Int)),.v (.int .i64 l)] s (ea (ew (pV n l)) .any):=by
 refine xH func116 ntmps116 results116 ?_;have Ka:=hl.le;have AB:=(KW hl hn).1;have Rg:0<(pV n l).length:=(by simp[pV]);have np:=fun(i:Nat)(h:i<(pV n l).length)=>NL hl hn h;have pZ:qq n l 0=(0,2*l-2):=rfl;have lA:∀j,qq n l (j+1)=(if n<((qq n l j).1+(qq n l j).2)/2 then((qq n l j).1,((qq n l j).1+(qq n l j).2)/2-1) else(((qq n l j).1+(qq n l j).2)/2+1,(qq n l j).2)):=fun j=>rfl;generalize pV n l=P at *
 generalize qq n l=S at *
 refine Zi ?_;have e0:gR .i64 (mF .i64 2 (l:Int)) 2=((2*l-2:Nat):Int):=(by rw[fp l oM,fD oM];omega);refine jB @e0 ?_;refine dH<|dU (fun E s2=>∃(i:Nat)(x:AV),i<P.length∧E 6=.v (.int .i64 ((S i).1:Nat))∧E 7=.v (.int .i64 ((S i).2:Nat))∧E 0=.v (.int .i64 ((n:Nat):Int))∧E 5=x∧il 1 s s2 x i ((ew (P.take i)).map ed)∧s.le s2)
  (fun E _=>P.length+1-re (E 5)) ?_ ?_
 ·refine⟨0,_,Rg,?_,?_,rfl,rfl,il.nil _ _ _,AS.le.refl _⟩
  ·rw[pZ];simp only[dY,Nc,↓reduceIte];rfl
  ·rw[pZ];simp only[dY,Nc,↓reduceIte]
 ·rintro E1 s2 ⟨i,x,hi,g6,g7,g0,g5,hx,hle⟩ -
  refine dH ?_;obtain⟨w1,w2,w3⟩:=np i hi;obtain⟨uJ,Sd⟩:∃m,m=((S i).1+(S i).2)/2:=⟨_,rfl⟩;have xD:=lA i;rw[<-Sd] at w1 w2 xD;have e1:nn .i64 (iY .i64 (((S i).1:Nat):Int) (((S i).2:Nat):Int)) 2=(uJ:Int):=by
   rw[kh oM,show(((S i).1:Nat):Int)+(((S i).2:Nat):Int)=(((S i).1+(S i).2:Nat):Int) by omega,iI _ oM,Sd]
  refine jB (Ai @g6 (Ai @g7 @e1)) ?_;have ir:ew (P.take (i+1))=ew (P.take i)++[(uJ:Int)]:=by
   unfold ew;rw[af hi,aH];rw[List.getElem?_eq_getElem hi] at w1;rw[bZ w1];rfl
  refine wK fun K3 eX=>?_;have fu:∀(E:Env)(s3:AS)(x3:AV),E 0=.v (.int .i64 ((n:Nat):Int))->E 6=.v (.int .i64 ((S i).1:Nat))->E 7=.v (.int .i64 ((S i).2:Nat))->E 8=.v (.int .i64 uJ)->E 5=x3->il 1 s s3 x3 (i+1) ((ew (P.take (i+1))).map ed)->s.le s3->K3 E s3:=by
   intro E s3 x3 f0 f6 f7 f8 f5 fx Dx;refine eX _ _ ?_;clear eX K3;refine wK fun K4 jm=>?_;by_cases he:n=uJ
   ·have UM:=w2.2 he;refine jB (Ai @f0 @f8) ?_;refine xY (qZ (show((n:Nat):Int)=(uJ:Int) by omega)) ?_;rw[UM,ad (ax _)] at fx;have hw:=fx.dV;refine jB @f5 ?_;refine jI ?_;refine⟨_,_,?_,Dx,rfl,rfl⟩;have LS:=fh P;unfold ea;rw[LS];exact hw
   ·have UM:i+1<P.length:=by
     have:=mt w2.1 he;omega
    refine jB (Ai @f0 @f8) ?_;refine xZ (pt (show ¬((n:Nat):Int)=(uJ:Int) by omega)) ?_;refine dX<|jm _ _ ?_;have m1:re (E1 5)=i:=by
     rw[g5];rcases hx with⟨rfl,rfl,_⟩|⟨t,e,rfl,_⟩<;>rfl
    have m2:re (E 5)=i+1:=by
     rw[f5];rcases fx with⟨rfl,h,_⟩|⟨t,e,rfl,_⟩
     ·omega
     ·rfl
    by_cases fB:n<uJ
    ·rw[if_pos fB] at xD;have e2:gR .i64 (uJ:Int) 1=((uJ-1:Nat):Int):=(by rw[fD oM];omega);refine jB (Ai @f0 @f8) ?_;refine xY (Ai (eq_true (show((n:Nat):Int)<(uJ:Int) by omega)) @not_true_eq_false) ?_;refine jD (Ai @f8 @e2) ?_;refine⟨⟨i+1,x3,UM,?_,?_,f0,f5,fx,Dx⟩,?_⟩
     ·rw[xD];simp only[dY,f6,Nc,↓reduceIte]
     ·rw[xD];simp only[dY,Nc,↓reduceIte]
     ·simp only[dY,Nc,↓reduceIte,m1,m2];omega
    ·rw[if_neg fB] at xD;refine jB (Ai @f0 @f8) ?_;refine xZ (Ai (eq_false (show ¬((n:Nat):Int)<(uJ:Int) by omega)) @not_false_eq_true) ?_;refine jD (Ai @f8 (js uJ oM)) ?_;refine⟨⟨i+1,x3,UM,?_,?_,f0,f5,fx,Dx⟩,?_⟩
     ·rw[xD];simp only[dY,Nc,↓reduceIte]
     ·rw[xD];simp only[dY,f7,Nc,↓reduceIte]
     ·simp only[dY,Nc,↓reduceIte,m1,m2];omega
  clear eX;rcases hx with⟨rfl,lu,yS⟩|⟨t,e,rfl,ht,mg⟩
  ·refine wE fun K hK=>?_;simp only[↓DN,Qa,Qb,Qc,Qd,Qe,Qf,Qg,Qh,seval,TT,g5,eW,av];intro t ht;refine hK _ _ (fu _ _ (.sl 1 1 [.v (.int .i64 (uJ:Int))] (.own t 0)) g0 g6 g7 rfl rfl ?_ ?_)
   ·refine .inr ⟨t,0,?_,by simp[AS.eT],eC hle ht⟩;rw[ir,aH,yS];subst lu;rfl
   ·exact AS.eE hle (eC hle ht) 0
  ·refine wE fun K hK=>?_;simp only[↓DN,Qa,Qb,Qc,Qd,Qe,Qf,Qg,Qh,seval,TT,g5,ht,av];have LS:(ew (P.take i)).length=i:=(by rw[fh,aV];omega);refine⟨oM,oM,hK _ _ (fu _ _ (.sl 1 (i+1) ((ew (P.take i)).map ed++[.v (.int .i64 (uJ:Int))]) (.own t (e+1))) g0 g6 g7 rfl rfl ?_ ?_)⟩
   ·exact .inr ⟨t,e+1,by rw[ir,aH];rfl,by simp[AS.eT],mg⟩
   ·exact AS.eE hle mg (e+1)
theorem A1(n l:Nat)(hl:Fit l)(hn:n<2*l-1)(hr:n≠l-1)(s:AS):aI prog Γ 127 [.v (.int .i64 n),.v (.int .i64 l)] s (.ka [.v (.int .i64 ((uf n:Nat):Int)),.v (.bool true)]):=by
 refine xH func127 ntmps127 results127 ?_;have Ka:=hl.le;have hf:decide (xB (l:Int))=true:=dT (sJ.2 hl);have h1:decide ((n:Int)<0)=false:=dF oM;have e2:gR .i64 (mF .i64 2 (l:Int)) 2=((2*l-2:Nat):Int):=(by rw[fp l oM,fD oM];omega);have h2:decide (((2*l-2:Nat):Int)<(n:Int))=false:=dF oM;have e3:gR .i64 (l:Int) 1=((l-1:Nat):Int):=(by rw[fD oM];omega);have h3:((n:Int)==((l-1:Nat):Int))=false:=(by simp;omega);obtain⟨Oj,hw2⟩:=KW hl hn;obtain⟨Xy,hw4⟩:=hw2 hr;have Zm:=fun s=>Iv (Γ:=Γ) n l hl hn s;have Kd:(ew (pV n l)).length=(pV n l).length:=fh _;have hWg:(ew (pV n l))[(pV n l).length-2]? =some ((uf n:Nat):Int):=by
  unfold ew;rw[aN,hw4];rfl
 generalize ew (pV n l)=W at *
 generalize (pV n l).length=k at *
 refine Q1 fun K hK K hK=>?_;refine b6 (uh l _) ?_;rintro r s1 ⟨rfl,rfl⟩;rw[hf];refine jV (Ai @h1 (Ai @e2 (Ai @h2 (Ai @e3 @h3)))) hK ?_;clear hK K;refine gW ?_;refine hK _ _<|jK (Zm _) ?_;rintro s2 rfl;have e4:gR .i64 (W.length:Int) 2=((k-2:Nat):Int):=(by rw[fD oM];omega);have fB:(((k-2:Nat):Int)<(W.length:Int)):=oM;have h0:(0:Int)<=((k-2:Nat):Int):=oM;have lr:(aD 1 (aK (k-2) (W.map ed)))[0]? =some (ed ((uf n:Nat):Int)):=by
  simp[aF,hWg]
 refine jB (Ai @ea.eq_1 (Ai @e4 (Ai @fB (Ai @h0 @lr)))) ?_;exact jJ
theorem zy(n l:Nat)(hl:Fit l)(hn:n<2*l-1)(hr:n≠l-1)(s:AS):aI prog Γ 69 [.v (.int .i64 n),.v (.int .i64 l)] s (.ka [.v (.int .i64 ((fE n:Nat):Int)),.v (.bool true)]):=by
 refine xH func69 ntmps69 results69 ?_;have Ka:=hl.le;obtain⟨u1,u2,u3,u4,u5⟩:=we hl hn hr;have Bi:=fun s=>A1 (Γ:=Γ) n l hl hn hr s;have PV:=fun s=>hM (Γ:=Γ) (uf n:Int) oM s;rw[KX u1 u2 u3] at PV;unfold fE;generalize uf n=u at *
 refine jA ?_;refine jK (Bi _) ?_;rintro s1 rfl;refine Q3 fun K hK=>?_;refine hK _ _ ?_;clear hK K;refine jK (PV _) ?_;rintro s2 rfl;refine wK fun K hK=>?_;by_cases h:n<u
 ·have h':=u4.1 h;have e:(((u-hf u:Nat):Int)==(n:Int))=true:=(by simp;omega);refine jB @e ?_;refine Ot ?_;rw[if_pos h];exact jJ
 ·have h':=mt u4.2 h;have e:(((u-hf u:Nat):Int)==(n:Int))=false:=(by simp;omega);refine jB @e ?_;refine gW ?_;refine hK _ _<|jA ?_;rw[if_neg h];exact jJ
theorem Ej(hG:Γ 3=lQ.map uU)(n l:Nat)(hl:Fit l)(hn:n<2*l-1)(hr:n≠l-1)(s:AS):aI prog Γ 105 [.v (.int .i64 n),.v (.int .i64 l)] s (.ka [.v (.int .i64 ((fE n:Nat):Int)),.v (.bool true)]):=by
 refine xH func105 ntmps105 results105 ?_;have Ka:=hl.le;obtain⟨u1,u2,u3,u4,u5⟩:=we hl hn hr;have Bi:=fun s=>sv (Γ:=Γ) hG n l hl hn s;rw[show xC n l=some (uf n) from if_neg hr] at Bi;simp only[Option.getD_some,Option.isSome_some] at Bi;have zY:=fun s=>su (Γ:=Γ) hG (uf n:Int) oM s;have hle:=fun s=>nU (Γ:=Γ) hG (uf n:Int) oM s;rw[KX u1 u2 u3] at zY hle;unfold fE;generalize uf n=u at *
 refine jA ?_;refine jK (Bi _) ?_;rintro s1 rfl;refine Q3 fun K hK=>?_;refine hK _ _ ?_;clear hK K;refine wK fun K hK=>?_;by_cases h:n<u
 ·refine jB (dT (show((n:Nat):Int)<(u:Int) by omega)) ?_;refine jE<|jK (zY _) ?_;rintro s2 rfl;rw[if_pos h];exact jJ
 ·refine jB (dF (show ¬((n:Nat):Int)<(u:Int) by omega)) ?_;refine gW ?_;refine hK _ _<|jK (hle _) ?_;rintro s2 rfl;rw[if_neg h];exact jJ
theorem BS(l:List UInt8)(sp:Sp)(ha:sp.isAny=false)(s:AS)(hl:l.length<=2^45):aI prog Γ 90 [dm l sp] s (dm l .any):=by
 refine xH func90 ntmps90 results90 ?_;unfold dm;refine yd fun K hK=>?_;refine jB (Ai @ha @and_false) ?_;refine gW ?_;refine hK _ _ ?_;by_cases h0:l.length=0
 ·have zX:l=[]:=al h0;subst zX;refine jA ?_;refine eF ?_;simp only[↓DN,Qa,Qb,Qc,Qd,Qe,Qf,Qg,Qh,seval,TT,fX,fe,fq,iu,kg];exact⟨_,s,AV.fc,AS.le.refl s,rfl,rfl⟩
 ·refine jS @h0 fun K hK=>?_;refine⟨oM,oM,fun t ht=>hK _ _ ?_⟩;refine eF ?_;simp only[↓DN,Qa,Qb,Qc,Qd,Qe,Qf,Qg,Qh,seval,TT,fX,fe,fq,iu,kg];exact⟨_,s,AV.fc,AS.eE (AS.le.refl s) ht 0,rfl,rfl⟩
theorem Iw(s0 s:AS)(p:Nat)(l:List UInt8)(n size:Nat)(hn:n<2^64)(hs:size<=8)(hl:l.length+8<=2^45)(h:Cv s0 s p l false):
  dS prog Γ 133 [.ptr p 0,.v (.int .u64 n),.v (.int .i64 size)] s (fun r s'=>r=.ka []∧Cv s0 s' p (l++be size n) false):=by
 refine xH func133 ntmps133 results133 ?_;refine xKl ?_;refine dU (fun E s1=>∃(i:Int)(l':List UInt8),E 6=.v (.int .i64 i)∧-1<=i∧i<size∧E 0=.ptr p 0∧E 1=.v (.int .u64 n)∧Cv s0 s1 p l' false∧l'++be (i+1).toNat n=l++be size n)
  (fun E _=>match E 6 with |.v (.int _ i)=>(i+1).toNat|_=>0) ?_ ?_
 ·refine⟨size-1,l,?_,oM,oM,by simp[dY,eV],by simp[dY,eV],h,by congr 2;omega⟩;simp[dY,fD (show -9223372036854775808<=(size:Int)-1∧(size:Int)-1<=9223372036854775807 by omega)]
 ·rintro E1 s1 ⟨i,l',h6,UM,kR,h0,h1,hp,Ka⟩ -
  obtain⟨x,hx,hb⟩:=hp.obj;refine wK fun K hK=>?_;by_cases hi:0<=i
  ·refine jB (Ai @h6 (Ai @h0 (Ai @h1 (Ai @hx (dT hi))))) ?_;refine ue ?_;refine hK _ _<|nF fun K hK=>?_;have hmul:mF .i64 8 i=8*i:=iv oM;have hnn:¬(8*i<0):=oM;obtain⟨j,rfl⟩:=ba hi;have hj:j<8:=oM;have gN:=Va n j hj;have UN:be ((j:Int)+1).toNat n=az (n/2^(8*j))::be j n:=by
    rw[show((j:Int)+1).toNat=j+1 from oM];rfl
   have hlen:l'.length<=l.length+size:=by
    have:=congrArg List.length Ka;simp at this;omega
   have tM:gR .i64 (j:Int) 1=(j:Int)-1:=fD oM;have fu:∀(E2:Env)(s2:AS),E2 6=.v (.int .i64 j)->E2 0=.ptr p 0->E2 1=.v (.int .u64 n)->Cv s0 s2 p (l'++[az (n/2^(8*j))]) false->K E2 s2:=by
    intro E2 s2 e6 e0 e1 Dt;refine hK _ _ ?_;clear hK K;refine jD (Ai @e6 @tM) ?_;refine⟨⟨(j:Int)-1,_,rfl,oM,oM,e0,e1,Dt,?_⟩,?_⟩
    ·rw[<-Ka,UN];simp
    ·simp only[h6,dY,↓reduceIte];omega
   clear hK;rcases hb with⟨rfl,zX⟩|⟨t,e,rfl,ht,mg⟩
   ·subst zX;refine iw T.mixed [4,11,14] kM ?_;intro K hK;simp only[↓DM,eZ,DX,↓DN,Qa,Qb,Qc,Qd,Qe,Qf,Qg,Qh,seval,TT,h6,h0,h1,hx,eW,hmul,hnn,av];intro t ht;refine hK _ _ (fu _ _ h6 h0 h1 ?_);rw[gN];exact hp.one ht _
   ·refine iw T.mixed [4,11,14] kM ?_;intro K hK;simp only[↓DM,eZ,DX,↓DN,Qa,Qb,Qc,Qd,Qe,Qf,Qg,Qh,seval,TT,h6,h0,h1,hx,dm,hmul,hnn,ht,av];refine⟨oM,oM,hK _ _ (fu _ _ h6 h0 h1 ?_)⟩;rw[gN];exact hp.more mg [_] rfl rfl
  ·have lu:i= -1:=oM;subst lu;refine jB (Ai @h6 (Ai @h0 (Ai @h1 @hx))) ?_;refine sI ?_;simp only[dJ,dn,if_true,fX,fe,fq,kg,ah];refine⟨_,s1,AV.dV.refl _,AS.le.refl _,rfl,?_⟩;have :l'=l++be size n:=(by simpa[be] using Ka);rw[<-this];exact hp
theorem NM(s0 s:AS)(p:Nat)(l:List UInt8)(n size:Int)(hs:0<=size∧size<=8)(h:Cv s0 s p l true):
  dS prog Γ 133 [.ptr p 0,.v (.int .u64 n),.v (.int .i64 size)] s (fun r s'=>r=.ka []∧Cv s0 s' p l true):=by
 refine xH func133 ntmps133 results133 ?_;obtain⟨x,hx,hb⟩:=h.obj;have tM:gR .i64 size 1=size-1:=fD oM;refine jB @tM ?_;refine dH<|dU (fun E s1=>E 6=.v (.int .i64 (size-1))∧E 0=.ptr p 0∧s1=s) (fun _ _=>0) ?_ ?_
 ·exact⟨by simp[dY],by simp[dY,eV],rfl⟩
 ·rintro E1 s1 ⟨h6,h0,rfl⟩ -
  refine wK fun K hK=>?_;by_cases hi:0<=size-1
  ·refine jB (Ai @h6 (Ai @h0 (Ai @hx (dT hi)))) ?_;refine sI ?_;simp only[dJ,dn,if_true,fX,fe,fq,kg,ah];exact⟨_,s1,AV.dV.refl _,AS.le.refl _,rfl,h⟩
  ·refine jB (Ai @h6 (Ai @h0 (Ai @hx (dF hi)))) ?_;refine sI ?_;simp only[dJ,dn,if_true,fX,fe,fq,kg,ah];exact⟨_,s1,AV.dV.refl _,AS.le.refl _,rfl,h⟩
theorem Ek(s0 s:AS)(p:Nat)(st:List UInt8×Bool)(n size:Nat)(hn:n<2^64)(hs:size<=8)(hl:st.1.length+8<=2^45)(h:mK s0 s p st):
  dS prog Γ 133 [.ptr p 0,.v (.int .u64 n),.v (.int .i64 size)] s (fun r s'=>r=.ka []∧mK s0 s' p (jX size n st)):=by
 obtain⟨l,b⟩:=st;cases b
 ·exact Iw s0 s p l n size hn hs hl h
 ·exact NM s0 s p l n size oM h
theorem v8(s:AS):dS prog Γ 31 [] s (fun r s'=>∃p,r=.ptr p 0∧mK s s' p ([],false)):=by
 refine xH func31 ntmps31 results31 ?_;refine jA ?_;refine wS fun K hK=>?_;simp only[↓DN,Qa,Qb,Qc,Qd,Qe,Qf,Qg,Qh,seval,TT,Array.toList_empty];intro p hp;refine hK _ _<|eF ?_;simp only[↓DN,Qa,Qb,Qc,Qd,Qe,Qf,Qg,Qh,seval,TT,fX,fe,fq,iu,kg];exact⟨_,_,AV.dV.refl _,AS.le.refl _,p,rfl,AS.dW (AS.le.refl s) hp _,hp,_,AS.bG _ _ _,.inl ⟨rfl,rfl⟩⟩
theorem pE(s0 s:AS)(p:Nat)(st:List UInt8×Bool)(n:Int)(size:Nat)(hn: -9223372036854775808<=n∧n<=9223372036854775807)(hs:size<=8)(hl:st.1.length+8<=2^45)(h:mK s0 s p st):
  dS prog Γ 135 [.ptr p 0,.v (.int .i64 n),.v (.int .i64 size)] s (fun r s'=>r=.ka []∧mK s0 s' p (eP size n st)):=by
 refine xH func135 ntmps135 results135 ?_;obtain⟨x,hx,hb⟩:=h.obj;refine wK fun K hK=>?_;have hmul:mF .i64 8 (size:Int)=8*size:=iv oM;have hnn:¬(8*(size:Int)<0):=oM;by_cases h0:n<0
 ·refine jB (dT h0) ?_;refine jE<|jB @hx ?_;refine eF ?_;simp only[dJ,fX,fe,fq,kg,ah];refine jW ⟨rfl,?_⟩;have :eP size n st=(st.1,true):=(by unfold eP;rw[if_neg oM]);rw[this];exact h.bad hx hb true
 ·by_cases h1:2^(8*size)<=n
  ·refine jB (Ai (dF h0) (Ai @hmul (Ai @hnn (Ai (Gg n size oM oM) (dT h1))))) ?_;refine jE<|jB @hx ?_;refine eF ?_;simp only[dJ,fX,fe,fq,kg,ah];refine jW ⟨rfl,?_⟩;have :eP size n st=(st.1,true):=(by unfold eP;rw[if_neg oM]);rw[this];exact h.bad hx hb true
  ·refine jB (Ai (dF h0) (Ai @hmul (Ai @hnn (Ai (Gg n size oM oM) (dF h1))))) ?_;refine gW ?_;refine hK _ _ ?_;obtain⟨m,rfl⟩:=ba (Int.not_lt.1 h0);have xcI:gq .u64 (m:Int)=m:=iS m oM;refine jU @xcI fun K hK=>?_;refine b6 (Ek s0 s p st m size oM hs hl h) ?_;rintro r s' ⟨rfl,hp⟩;refine jR hK ?_;simp only[fX,fe,fq,kg,ah];refine jW ⟨rfl,?_⟩;have :eP size m st=jX size m st:=(by unfold eP;rw[if_pos oM];rfl);rw[this];exact hp
theorem lX(s0 s:AS)(p:Nat)(st:List UInt8×Bool)(n:Int)(hn: -9223372036854775808<=n∧n<=9223372036854775807)(hl:st.1.length+8<=2^45)(h:mK s0 s p st):
  dS prog Γ 88 [.ptr p 0,.v (.int .i64 n)] s (fun r s'=>r=.ka []∧mK s0 s' p (eP 1 n st)):=by
 refine xH func88 ntmps88 results88 ?_;refine jT fun K hK=>?_;refine b6 (pE s0 s p st n 1 hn oM hl h) ?_;rintro r s' ⟨rfl,hp⟩;refine jR hK ?_;simp only[fX,fe,fq,iu,ah,↓eL];try simp only[UP,DF,Nc,↓reduceIte,DT]
 exact jW ⟨rfl,hp⟩
theorem Ix(s0 s:AS)(p:Nat)(st:List UInt8×Bool)(n:Int)(hn: -9223372036854775808<=n∧n<=9223372036854775807)(hl:st.1.length+8<=2^45)(h:mK s0 s p st):
  dS prog Γ 145 [.ptr p 0,.v (.int .i64 n)] s (fun r s'=>r=.ka []∧mK s0 s' p (eP 2 n st)):=by
 refine xH func145 ntmps145 results145 ?_;refine jT fun K hK=>?_;refine b6 (pE s0 s p st n 2 hn oM hl h) ?_;rintro r s' ⟨rfl,hp⟩;refine jR hK ?_;simp only[fX,fe,fq,iu,ah,↓eL];try simp only[UP,DF,Nc,↓reduceIte,DT]
 exact jW ⟨rfl,hp⟩
theorem yZ(s0 s:AS)(p:Nat)(st:List UInt8×Bool)(n:Int)(hn: -9223372036854775808<=n∧n<=9223372036854775807)(hl:st.1.length+8<=2^45)(h:mK s0 s p st):
  dS prog Γ 219 [.ptr p 0,.v (.int .i64 n)] s (fun r s'=>r=.ka []∧mK s0 s' p (eP 4 n st)):=by
 refine xH func219 ntmps219 results219 ?_;refine jT fun K hK=>?_;refine b6 (pE s0 s p st n 4 hn oM hl h) ?_;rintro r s' ⟨rfl,hp⟩;refine jR hK ?_;simp only[fX,fe,fq,iu,ah,↓eL];try simp only[UP,DF,Nc,↓reduceIte,DT]
 exact jW ⟨rfl,hp⟩
theorem ql(s0 s:AS)(p:Nat)(st:List UInt8×Bool)(n:Nat)(hn:n<2^64)(hl:st.1.length+8<=2^45)(h:mK s0 s p st):
  dS prog Γ 86 [.ptr p 0,.v (.int .u64 n)] s (fun r s'=>r=.ka []∧mK s0 s' p (jX 8 n st)):=by
 refine xH func86 ntmps86 results86 ?_;refine jT fun K hK=>?_;refine b6 (Ek s0 s p st n 8 hn oM hl h) ?_;rintro r s' ⟨rfl,hp⟩;refine jR hK ?_;simp only[fX,fe,fq,iu,ah,↓eL];try simp only[UP,DF,Nc,↓reduceIte,DT]
 exact jW ⟨rfl,hp⟩
theorem zz(s0 s:AS)(p:Nat)(st:List UInt8×Bool)(b:AV)(m:List UInt8)(hb:Fg b m)(hl:st.1.length+m.length<=2^45)(h:mK s0 s p st):
  dS prog Γ 175 [.ptr p 0,b] s (fun r s'=>r=.ka []∧mK s0 s' p (jY m st)):=by
 obtain⟨l,bad⟩:=st;obtain⟨x,hx,Tf⟩:=h.obj;refine xH func175 ntmps175 results175 ?_;cases bad
 ·refine jB @hx ?_;refine jE ?_;have xcJ:jY m (l,false)=(l++m,false):=rfl;by_cases hm:m.length=0
  ·have zZ:m=[]:=al hm;subst zZ;have e:(l++[],false)=(l,false):=sM;rw[xcJ,e];rcases Tf with⟨rfl,zX⟩|⟨t,e,rfl,ht,mg⟩
   ·simp only at zX;subst zX;rcases hb with⟨rfl,_⟩|⟨sp,rfl⟩
    ·refine wE fun K hK=>?_;simp only[↓DN,Qa,Qb,Qc,Qd,Qe,Qf,Qg,Qh,seval,TT,hx,eW,dm,hm];refine hK _ _ ?_;simp only[fX,fe,fq,iu,ah,↓eL];try simp only[UP,DF,Nc,↓reduceIte,DT]
     exact⟨_,_,AV.dV.refl _,AS.le.refl _,rfl,h.bad hx (.inl ⟨rfl,rfl⟩) false⟩
    ·refine wE fun K hK=>?_;simp only[↓DN,Qa,Qb,Qc,Qd,Qe,Qf,Qg,Qh,seval,TT,hx,eW,dm,hm];refine hK _ _ ?_;simp only[fX,fe,fq,iu,ah,↓eL];try simp only[UP,DF,Nc,↓reduceIte,DT]
     exact⟨_,_,AV.dV.refl _,AS.le.refl _,rfl,h.bad hx (.inl ⟨rfl,rfl⟩) false⟩
   ·rcases hb with⟨rfl,_⟩|⟨sp,rfl⟩
    ·refine wE fun K hK=>?_;simp only[↓DN,Qa,Qb,Qc,Qd,Qe,Qf,Qg,Qh,seval,TT,hx,eW,dm,hm];refine hK _ _ ?_;simp only[fX,fe,fq,iu,ah,↓eL];try simp only[UP,DF,Nc,↓reduceIte,DT]
     exact⟨_,_,AV.dV.refl _,AS.le.refl _,rfl,h.bad hx (.inr ⟨t,e,rfl,ht,mg⟩) false⟩
    ·refine wE fun K hK=>?_;simp only[↓DN,Qa,Qb,Qc,Qd,Qe,Qf,Qg,Qh,seval,TT,hx,eW,dm,hm];refine hK _ _ ?_;simp only[fX,fe,fq,iu,ah,↓eL];try simp only[UP,DF,Nc,↓reduceIte,DT]
     exact⟨_,_,AV.dV.refl _,AS.le.refl _,rfl,h.bad hx (.inr ⟨t,e,rfl,ht,mg⟩) false⟩
  ·have RH:∃sp,b=dm m sp:=by
    rcases hb with⟨_,rfl⟩|hb
    ·exact absurd rfl hm
    ·exact hb
   obtain⟨sp,rfl⟩:=RH;rw[xcJ];simp only at hl;rcases Tf with⟨rfl,zX⟩|⟨t,e,rfl,ht,mg⟩
   ·simp only at zX;subst zX;refine wE fun K hK=>?_;simp only[↓DN,Qa,Qb,Qc,Qd,Qe,Qf,Qg,Qh,seval,TT,hx,eW,dm,hm];refine⟨oM,oM,fun t ht=>hK _ _ ?_⟩;simp only[fX,fe,fq,iu,ah,↓eL];try simp only[UP,DF,Nc,↓reduceIte,DT]
    exact jW ⟨rfl,h.Vh ht m⟩
   ·refine jU (Ai @hx (Ai @dm.eq_1 (Ai @hm @ht))) fun K hK=>?_;refine⟨oM,oM,hK _ _ ?_⟩;simp only[fX,fe,fq,iu,ah,↓eL];try simp only[UP,DF,Nc,↓reduceIte,DT]
    exact jW ⟨rfl,h.more mg m rfl rfl⟩
 ·refine jB @hx ?_;refine gW ?_;simp only[fX,fe,fq,iu,ah,↓eL];try simp only[UP,DF,Nc,↓reduceIte,DT]
  exact jW ⟨rfl,h⟩
theorem xd(s0 s:AS)(p:Nat)(st:List UInt8×Bool)(b:AV)(m:List UInt8)(k:Nat)(hk:k<=8)(hb:Fg b m)(hl:st.1.length+m.length+8<=2^45)(h:mK s0 s p st):
  dS prog Γ 134 [.ptr p 0,b,.v (.int .i64 k)] s (fun r s'=>r=.ka []∧mK s0 s' p (iM k m st)):=by
 refine xH func134 ntmps134 results134 ?_;have hlen:(eP k m.length st).1.length<=st.1.length+k:=kG ..;rcases hb with⟨rfl,rfl⟩|⟨sp,rfl⟩
 ·refine wS fun K hK=>?_;simp only[↓DN,Qa,Qb,Qc,Qd,Qe,Qf,Qg,Qh,seval,TT,eW,aX];refine b6 (pE s0 s p st 0 k oM hk oM h) ?_;rintro r s' ⟨rfl,hp⟩;refine jR hK ?_;refine jT fun K hK=>?_;refine b6 (zz s0 s' p _ eW [] Fg.nil (by have:=kG k 0 st;simp at this hl⊢;omega) hp) ?_;rintro r mb ⟨rfl,Xu⟩;refine jR hK ?_;simp only[fX,fe,fq,iu,ah,↓eL];try simp only[UP,DF,Nc,↓reduceIte,DT]
  exact jW ⟨rfl,Xu⟩
 ·refine jS @dm.eq_1 fun K hK=>?_;refine b6 (pE s0 s p st m.length k oM hk oM h) ?_;rintro r s' ⟨rfl,hp⟩;refine jR hK ?_;refine jT fun K hK=>?_;refine b6 (zz s0 s' p _ (dm m sp) m (Fg.mk m sp) (by simp only[aX] at *;omega) hp) ?_;rintro r mb ⟨rfl,Xu⟩;refine jR hK ?_;simp only[fX,fe,fq,iu,ah,↓eL];try simp only[UP,DF,Nc,↓reduceIte,DT]
  exact jW ⟨rfl,Xu⟩
theorem lY(s0 s:AS)(p:Nat)(st:List UInt8×Bool)(b:AV)(m:List UInt8)(hb:Fg b m)(hl:st.1.length+m.length+8<=2^45)(h:mK s0 s p st):
  dS prog Γ 87 [.ptr p 0,b] s (fun r s'=>r=.ka []∧mK s0 s' p (iM 1 m st)):=by
 refine xH func87 ntmps87 results87 ?_;refine jT fun K hK=>?_;refine b6 (xd s0 s p st b m 1 oM hb hl h) ?_;rintro r s' ⟨rfl,hp⟩;refine jR hK ?_;simp only[fX,fe,fq,iu,ah,↓eL];try simp only[UP,DF,Nc,↓reduceIte,DT]
 exact jW ⟨rfl,hp⟩
theorem FK(s0 s:AS)(p:Nat)(st:List UInt8×Bool)(b:AV)(m:List UInt8)(hb:Fg b m)(hl:st.1.length+m.length+8<=2^45)(h:mK s0 s p st):
  dS prog Γ 136 [.ptr p 0,b] s (fun r s'=>r=.ka []∧mK s0 s' p (iM 2 m st)):=by
 refine xH func136 ntmps136 results136 ?_;refine jT fun K hK=>?_;refine b6 (xd s0 s p st b m 2 oM hb hl h) ?_;rintro r s' ⟨rfl,hp⟩;refine jR hK ?_;simp only[fX,fe,fq,iu,ah,↓eL];try simp only[UP,DF,Nc,↓reduceIte,DT]
 exact jW ⟨rfl,hp⟩
theorem GK(s:AS):aI prog Γ 90 [eW] s (dm [] .any):=by
 refine xH func90 ntmps90 results90 ?_;unfold eW;refine xKw fun K hK=>?_;refine mS ?_;exact⟨_,_,AV.eh,AS.le.refl _,rfl,rfl⟩
theorem yY(l:List UInt8)(s:AS)(hl:l.length<=2^45):aI prog Γ 90 [dm l .any] s (dm l .any):=
 dS.any (pre:=[]) (post:=[]) (fun e=>by subst e;exact GK s) (BS l .no rfl s hl)
theorem nY(s0 s:AS)(p:Nat)(st:List UInt8×Bool)(hl:st.1.length<=2^45)(h:mK s0 s p st):
  aI prog Γ 33 [.ptr p 0] s (.ka [dm (if st.2=true then[] else st.1) .any,.v (.bool !st.2)]):=by
 obtain⟨l,bad⟩:=st;obtain⟨x,hx,Tf⟩:=h.obj;refine xH func33 ntmps33 results33 ?_;simp only at hx hl Tf;refine yd fun K hK=>?_;cases bad
 ·refine jB @hx ?_;refine gW ?_;refine hK _ _ ?_;rcases Tf with⟨rfl,zX⟩|⟨t,e,rfl,ht,mg⟩
  ·subst zX;refine jS @hx fun K hK=>?_;refine b6 (GK s) ?_;rintro r s' ⟨rfl,rfl⟩;refine jR hK ?_;exact jJ
  ·refine jS @hx fun K hK=>?_;refine b6 (BS l _ rfl s hl) ?_;rintro r s' ⟨rfl,rfl⟩;refine jR hK ?_;exact jJ
 ·refine jB @hx ?_;refine mS ?_;exact⟨_,_,AV.gJ AV.eh (AV.dV.refl _),AS.le.refl _,rfl,rfl⟩
theorem xI(l:List UInt8)(s:AS)(hl:l.length<=2^45):dS prog Γ 35 [dm l .any] s (fun r s'=>∃p,r=.ptr p 0∧xw s s' p (l,0)):=by
 refine xH func35 ntmps35 results35 ?_;refine jA ?_;refine jQ fun K hK=>?_;refine b6 (yY l s hl) ?_;rintro r s' ⟨rfl,rfl⟩;unfold dm;refine jM ?_;intro p hp;refine hK _ _<|jI ?_;exact jW ⟨p,rfl,AS.dW (AS.le.refl _) hp _,hp,AS.bG _ _ _⟩
theorem NN(s0 s:AS)(p:Nat)(st:pn)(n:Int)(h:xw s0 s p st):
  dS prog Γ 176 [.ptr p 0,.v (.int .i64 n)] s (fun r s'=>r=dm (jr n st).1 .any∧xw s0 s' p (jr n st).2):=by
 refine xH func176 ntmps176 results176 ?_;obtain⟨l,er⟩:=st;have hx:=h.obj;simp only[dm] at hx;refine yd fun K hK=>?_;refine dH ?_;by_cases h0:er=0
 ·subst h0;refine jB (Ai @hx (Hw 0 rfl)) ?_;refine jF ?_;by_cases h1:n<0
  ·refine jB (dT h1) ?_;refine jE<|jB @hx ?_;refine wq ?_;rw[JQ h1];exact⟨_,_,AV.eh,AS.le.refl _,rfl,h.put⟩
  ·refine jB (dF h1) ?_;refine jF ?_;by_cases h2:(l.length:Int)<n
   ·refine jB (Ai @hx (dT h2)) ?_;refine jE<|jB @hx ?_;refine wq ?_;rw[Fh h1 h2];exact⟨_,_,AV.eh,AS.le.refl _,rfl,h.put⟩
   ·obtain⟨m,rfl⟩:=ba (Int.not_lt.1 h1);have vP:m<=l.length:=oM;have zZ:(0:Int)<=(m:Int):=oM;have xcK:(m:Int)<=(l.length:Int):=oM;refine jB (Ai @hx (dF h2)) ?_;refine gW ?_;simp only[dJ,dn,if_true,if_false];refine hK _ _<|jB (Ai @hx (Ai @zZ (Ai @xcK @bB))) ?_;refine jB (Ai @hx (Ai @zZ (Ai @xcK @bB))) ?_;refine wq ?_;rw[My vP];refine⟨_,_,AV.dV.refl _,AS.le.refl _,JM ?_ rfl,h.xft ?_⟩
    ·simp only[aV];omega
    ·rw[JM (m:=l.drop m)]
     ·simp only[List.length_drop]
     ·rw[cB]
 ·refine jB (Ai @hx (JN er h0)) ?_;refine mS ?_;rw[JP h0];exact⟨_,_,AV.eh,AS.le.refl _,rfl,h⟩
theorem uy(s0 s:AS)(p:Nat)(st:pn)(size:Nat)(hs:size<=8)(h:xw s0 s p st):
  dS prog Γ 137 [.ptr p 0,.v (.int .i64 size)] s (fun r s'=>r=.v (.int .u64 (oG size st).1)∧xw s0 s' p (oG size st).2):=by
 refine xH func137 ntmps137 results137 ?_;obtain⟨out,eU⟩:∃out,out=(jr size st).1:=⟨_,rfl⟩;have hlen:out.length<=8:=(by rw[eU];exact Nat.le_trans (Dd _ _) hs);refine xKo fun K hK=>?_;refine jQ fun K hK=>?_;refine b6 (NN s0 s p st size h) ?_;rintro r s2 ⟨rfl,he⟩;rw[<-eU];unfold dm;refine jR hK ?_;clear hK K;refine dH<|dU (fun E s3=>∃j y:Nat,j<=out.length∧E 10=.sl 1 out.length (out.map cU) .any∧E 11=.v (.int .i64 out.length)∧E 12=.v (.int .i64 j)∧E 5=.v (.int .u64 y)∧y=nB (out.take j)∧s3=s2)
  (fun E _=>match E 12 with |.v (.int _ j)=>out.length-j.toNat|_=>0) ?_ ?_
 ·exact⟨0,0,aA _,rfl,rfl,rfl,rfl,rfl,rfl⟩
 ·rintro E3 s3 ⟨j,y,hj,f10,f11,f12,f5,hy,rfl⟩ -
  by_cases nH:j<out.length
  ·have hy7:y<2^56:=by
    rw[hy];refine Nat.lt_of_lt_of_le (wI out j) ?_;rw[show(2:Nat)^56=256^7 from dM];exact bJ dM oM
   have hy2:nB (out.take (j+1))=y*256+out[j].toNat:=(by rw[af nH,Dc,<-hy]);have Wf:(0:Int)<=(j:Int):=oM;have gO:=RC nH;generalize Jf:out[j]=c at *
   refine jB (Ai @f11 (Ai @f12 (Ai @dB (dT nH)))) ?_;refine Ja fun K5 mE=>?_;refine mE _ _<|nF fun K6 ll=>?_;refine wS fun K hK=>?_;simp only[↓DN,Qa,Qb,Qc,Qd,Qe,Qf,Qg,Qh,seval,TT,f10,f12,dB,nH,Wf,gO,cU];refine hK _ _ ?_;clear hK K;refine jD (Ai @f5 (Mu y c hy7)) ?_;simp only[dn,dJ,if_true,if_false];refine ll _ _<|jD (Ai @f12 (js j oM)) ?_;refine⟨⟨j+1,y*256+c.toNat,oM,f10,f11,rfl,rfl,hy2.symm,rfl⟩,?_⟩;simp only[f12,dY,↓reduceIte];omega
  ·refine jB (Ai @f11 (Ai @f12 (Ai @dB (dF nH)))) ?_;refine Jb fun K5 mE=>?_;simp only[dJ,dn,if_true];refine hK _ _<|jB @f5 ?_;refine jI ?_;refine⟨_,_,AV.dV.refl _,AS.le.refl _,?_,he⟩;rw[hy,ad oM,eU];rfl
theorem Qq(k:Nat)(hk:k<=7)(st:pn):gq .i64 ((oG k st).1:Int)=((oG k st).1:Int):=by
 have:=Py k st;have h2:256^k<=256^7:=bJ dM hk;have h3:(256:Nat)^7=72057594037927936:=dM;exact Gf oM
theorem yW(s0 s:AS)(p:Nat)(st:pn)(h:xw s0 s p st):
  dS prog Γ 217 [.ptr p 0] s (fun r s'=>r=.v (.int .i64 (oG 4 st).1)∧xw s0 s' p (oG 4 st).2):=by
 refine xH func217 ntmps217 results217 ?_;refine jA ?_;refine jQ fun K hK=>?_;refine b6 (uy s0 s p st 4 oM h) ?_;rintro r s' ⟨rfl,he⟩;refine jV (Qq 4 oM st) hK ?_;refine jI ?_;exact jW ⟨rfl,he⟩
theorem HZ(s0 s:AS)(p:Nat)(st:pn)(h:xw s0 s p st):
  dS prog Γ 94 [.ptr p 0] s (fun r s'=>r=.v (.int .u64 (oG 8 st).1)∧xw s0 s' p (oG 8 st).2):=by
 refine xH func94 ntmps94 results94 ?_;refine jA ?_;refine jQ fun K hK=>?_;refine b6 (uy s0 s p st 8 oM h) ?_;rintro r s' ⟨rfl,he⟩;refine jR hK ?_;refine jI ?_;exact jW ⟨rfl,he⟩
theorem n256:((256:Int)=0)=False:=sM
theorem Tg(q:Nat):gq .u8 (mG (q:Int) 256)=((az q).toNat:Int):=by
 rw[show(256:Int)=((256:Nat):Int) from rfl,mI,nh rfl];simp[aJ]
theorem Wk(n i:Nat)(h:n<2^64):nn .u64 ((n/256^i:Nat):Int) 256=((n/256^(i+1):Nat):Int):=by
 have hq:n/256^i<2^IntKind.u64.bits:=Nat.lt_of_le_of_lt (Nat.div_le_self _ _) h;have:=Rn (k:=.u64) rfl (n/256^i) 256 hq;rw[show(256:Int)=((256:Nat):Int) from rfl,this,Nat.div_div_eq_div_mul,cj]
theorem Th(c:UInt8):p8 [AV.v (.int .u8 (c.toNat:Int))]=cC [c].toArray:=lF [c]
theorem Wl(c:UInt8):isByte (AV.v (.int .u8 (c.toNat:Int)))=true:=rfl
theorem fU(n size:Nat)(hn:n<2^64)(hs:size<=8)(s:AS):
  aI prog Γ 91 [.v (.int .u64 n),.v (.int .i64 size)] s (.v (.string ⟨(be size n).toArray⟩)):=by
 refine xH func91 ntmps91 results91 ?_;refine UL fun K hK=>?_;refine dU (fun E s1=>∃i:Nat,i<=size∧E 6=.v (.int .i64 i)∧E 1=.v (.int .i64 size)∧E 0=.v (.int .u64 (n/256^i:Nat))∧E 5=.v (.string ⟨(be i n).toArray⟩)∧s1=s)
  (fun E _=>match E 6 with |.v (.int _ i)=>size-i.toNat|_=>0) ?_ ?_
 ·exact⟨0,aA _,by simp[dY],by simp[dY,eV],by simp[dY,eV],by simp[dY,be],rfl⟩
 ·rintro E1 s1 ⟨i,hi,h6,h1,h0,h5,rfl⟩ -
  refine wK fun K2 eH=>?_;by_cases et:i<size
  ·refine jB (Ai @h6 (Ai @h1 (Ai @dB (dT et)))) ?_;refine ue ?_;refine eH _ _<|nF fun K3 eX=>?_;refine wS fun K hK=>?_;simp only[↓DN,Qa,Qb,Qc,Qd,Qe,Qf,Qg,Qh,seval,TT,h0,h5,n256,Tg,Th,Wl,av,gK,Am,ga,eS (show 1+i<2^62 by omega)];refine hK _ _ ?_;clear hK K;refine jD (Ai @h0 (Ai @n256 (Wk n i hn))) ?_;simp only[dn,dJ,if_true,if_false];refine eX _ _<|jD (Ai @h6 (js i oM)) ?_;refine⟨⟨i+1,oM,rfl,h1,rfl,?_,rfl⟩,?_⟩
   ·simp only[dY,Nc,↓reduceIte,be,show 2^(8*i)=256^i from by rw[Nat.pow_mul]]
   ·simp only[h6,dY,↓reduceIte];omega
  ·refine jB (Ai @h6 (Ai @h1 (Ai @dB (dF et)))) ?_;refine sI ?_;simp only[dJ,dn,if_true];refine hK _ _<|jB @h5 ?_;refine jI ?_;obtain rfl:i=size:=oM;exact jW ⟨rfl,rfl⟩
theorem Wm(n:Nat)(h:n<2^63):gq .u64 (n:Int)=n:=iS n oM
theorem ln(l:List UInt8)(size:Nat)(hl:l.length<2^61)(hs:size<=8)(s:AS):
  aI prog Γ 92 [.v (.string ⟨l.toArray⟩),.v (.int .i64 size)] s (.v (.string ⟨(be size l.length++l).toArray⟩)):=by
 refine xH func92 ntmps92 results92 ?_;refine jA ?_;refine jS (Ai @gK (Wm l.length oM)) fun K hK=>?_;refine b6 (fU l.length size oM hs s) ?_;rintro r s' ⟨rfl,rfl⟩;refine jV (Ai @gK (Ai @Am (Ai @ga (eS (show size+l.length<2^62 by omega))))) hK ?_;exact jJ
theorem Ti(y:Nat)(c:UInt8)(h:y<2^56):iY .u64 (mF .u64 (y:Int) 256) (gq .u64 (c.toNat:Int))=((y*256+c.toNat:Nat):Int):=by
 have hc:=c.toNat_lt;rw[iS _ oM,show(256:Int)=((256:Nat):Int) from rfl,Hn rfl,aW (by simp only[aJ];omega),Ah rfl,aW (by simp only[aJ];omega)]
theorem BA(l:List UInt8)(hl:l.length<=8)(s:AS):
  aI prog Γ 67 [.v (.string ⟨l.toArray⟩)] s (.v (.int .u64 (nB l))):=by
 refine xH func67 ntmps67 results67 ?_;refine UL fun K hK=>?_;refine dU (fun E s1=>∃i x:Nat,i<=l.length∧E 0=.v (.string ⟨l.toArray⟩)∧E 4=.v (.int .i64 i)∧E 3=.v (.int .u64 x)∧x=nB (l.take i)∧s1=s)
  (fun E _=>match E 4 with |.v (.int _ i)=>l.length-i.toNat|_=>0) ?_ ?_
 ·exact⟨0,0,aA _,by simp[dY,eV],by simp[dY],by simp[dY],by simp[nB],rfl⟩
 ·rintro E1 s1 ⟨i,x,hi,h0,h4,h3,hx,rfl⟩ -
  refine wK fun K2 eH=>?_;by_cases et:i<l.length
  ·have hx2:nB (l.take (i+1))=x*256+l[i].toNat:=(by rw[af et,Dc,<-hx]);have hx7:x<2^56:=by
    rw[hx];refine Nat.lt_of_lt_of_le (wI l i) ?_;rw[show(2:Nat)^56=256^7 from dM];exact bJ dM oM
   have hgi:(0:Int)<=(i:Int):=oM;have lr:=Mx l i et;generalize Jf:l[i]=c at *
   refine jB (Ai @h0 (Ai @h4 (Ai @gK (Ai @dB (dT et))))) ?_;refine ue ?_;refine eH _ _<|nF fun K3 eX=>?_;refine wE fun K hK=>?_;simp only[↓DN,Qa,Qb,Qc,Qd,Qe,Qf,Qg,Qh,seval,TT,h0,h4,h3,hgi,lr,cU,Ti x c hx7];refine hK _ _ ?_;clear hK K;simp only[dn,dJ,if_true,if_false];refine eX _ _<|jD (Ai @h4 (js i oM)) ?_;refine⟨⟨i+1,_,oM,h0,rfl,rfl,hx2.symm,rfl⟩,?_⟩;simp only[h4,dY,↓reduceIte];omega
  ·refine jB (Ai @h0 (Ai @h4 (Ai @gK (Ai @dB (dF et))))) ?_;refine sI ?_;simp only[dJ,dn,if_true];refine hK _ _<|jB @h3 ?_;refine jI ?_;refine jW ⟨?_,rfl⟩;rw[hx,ad oM]
end Go.Proofs.YtbiefppedlodiaaGreatDoor
