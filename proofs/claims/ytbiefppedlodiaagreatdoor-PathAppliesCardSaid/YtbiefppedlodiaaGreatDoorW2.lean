/- Contracts of functions, each walked once; each theorem states its conditions. -/
import Derived.Test.YtbiefppedlodiaaGreatDoorAMp4
import Derived.Test.YtbiefppedlodiaaGreatDoorAMp5
import Derived.Test.YtbiefppedlodiaaGreatDoorW1
import Derived.Test.YtbiefppedlodiaaGreatDoorAMp7
import Derived.Shelf.Slices.SearchI
import Derived.Shelf.Slices.Empties
import Derived.Sort.EveryDepth
import Derived.Shelf.Sort.AssemblyIn
import Derived.Lib.RowBridge
import Derived.Test.YtbiefppedlodiaaGreatDoorAMp6
import Derived.Test.YtbiefppedlodiaaGreatDoorAMp3
set_option linter.unusedSimpArgs false
set_option linter.unusedVariables false
open Nat renaming reduceLT → Na, reduceLeDiff → Nb, reduceEqDiff → Nc, reduceAdd → Nk, reduceMul → Nf, reducePow → Ng, reduceSub → Nh, reduceBEq → Nz
open Int renaming reduceLT → Za, reduceLE → Zb, reduceToNat → Zc
open And renaming intro → Ai
open Go.AM renaming ashift → Qa, aconv → Qb, aindexAddr → Qc, aindex → Qd, aslice → Qe, abuiltin → Qf, awp_reg_seq → wS, awp_reg_end → wE, awp_seq_k → wK, awp_cond_k → wC
open Go.AM.AV renaming cells → Qg, one → Qh
set_option maxRecDepth 100000
set_option maxHeartbeats 8000000
namespace Go.AM
open Go
structure HZ where
  kind:Int
  n:Int
  b:List UInt8
def HZ.cells(p:HZ):List AV:=[.v (.int .i64 p.kind),.v (.int .i64 p.n),al p.b .any]
def xb9(ps:List HZ):List AV:=(ps.map HZ.cells).flatten
def aK{α:Type}(c:α→List AV)(l:List α):List AV:=(l.map c).flatten
theorem mV{α:Type}{c:α→List AV}{k:Nat}(hk:∀a,(c a).length=k){l:List α}{i:Nat}(h:i<l.length):List.take k (List.drop (i*k) (aK c l))=c l[i]:=by
  have:=xV (sz:=k) (els:=l.map c) (i:=i) (by simpa using h) (by
    intro el vq;obtain⟨p,_,rfl⟩:=List.mem_map.1 vq;exact hk p)
  unfold aK;rw[this];simp
theorem cL{α:Type}{c:α→List AV}{k:Nat}(hk:∀a,(c a).length=k)(l:List α):(aK c l).length=l.length*k:=by
  induction l with
  |nil=>simp[aK]
  |cons a l ih=>
    have :aK c (a::l)=c a++aK c l:=rfl;rw[this,List.length_append,ih,hk,List.length_cons,Nat.succ_mul,Nat.add_comm]
theorem LN{α:Type}{c:α→List AV}(l:List α)(a:α):aK c (l++[a])=aK c l++c a:=by simp[aK]
theorem cO.row{α:Type}{c:α→List AV}{ty:Ty}{k:Nat}{Q:α→Prop}(vq:∀el,cO ty el→∃a,el=c a∧Q a){gw:List AV}(h:cO (.slice k ty) gw):
    ∃l:List α,gw=[.sl k l.length (aK c l) .any]∧(∀a∈l,Q a)∧l.length≤maxLen:=by
  obtain⟨els,rfl,hlen,bT⟩:=cO.rows h;have key:∀els:List (List AV),(∀el∈els,el.length=k∧cO ty el)→∃l:List α,els=l.map c∧∀a∈l,Q a:=by
    intro els;induction els with
    |nil=>intro _;exact⟨[],rfl,by simp⟩
    |cons e els ih=>
      intro h;obtain⟨l,rfl,hl⟩:=ih (fun el vq=>h el (by simp[vq]));obtain⟨_,h1⟩:=h e (by simp);obtain⟨a,rfl,ha⟩:=vq e h1;refine⟨a::l,rfl,?_⟩;intro b hb;rcases List.mem_cons.1 hb with rfl|hb
      · exact ha
      · exact hl b hb
  obtain⟨l,rfl,hl⟩:=key els bT;exact⟨l,by simp[aK],hl,by simpa using hlen⟩
def Rc(n:Nat):Prop:=2≤n∧n≤2305843009213693949
instance(n:Nat):Decidable (Rc n):=by unfold Rc;infer_instance
structure lT where
  kind:Int
  leaf:Int
  name:List UInt8
  key:Nat
  init:Nat
  deriving DecidableEq
structure dP where
  ji:Nat
  text:List UInt8
  deriving DecidableEq
structure cb where
  key:Nat
  dw:List dP
  deriving DecidableEq
structure cS where
  key:Nat
  parent:List UInt8
  steps:List cb
  deriving DecidableEq
structure cM where
  group:List UInt8
  ij:Int
  Cx:Int
  props:List lT
  xc:Bool
  path:cS
  Cy:List UInt8
  GD:List UInt8
  deriving DecidableEq
def lT.cells(p:lT):List AV:=[.v (.int .i64 p.kind),.v (.int .i64 p.leaf),al p.name .any,.v (.int .u64 p.key),.v (.int .u64 p.init)]
def dP.cells(p:dP):List AV:=[.v (.int .u64 p.ji),al p.text .any]
def cb.cells(p:cb):List AV:=[.v (.int .u64 p.key),.sl 2 p.dw.length (aK dP.cells p.dw) .any]
def cS.cells(p:cS):List AV:=[.v (.int .u64 p.key),al p.parent .any,.sl 2 p.steps.length (aK cb.cells p.steps) .any]
def cM.cells(c:cM):List AV:=
  [al c.group .any,.v (.int .i64 c.ij),.v (.int .i64 c.Cx),.sl 5 c.props.length (aK lT.cells c.props) .any,.v (.bool c.xc),
   .v (.int .u64 c.path.key),al c.path.parent .any,.sl 2 c.path.steps.length (aK cb.cells c.path.steps) .any,al c.Cy .any,al c.GD .any]
def lT.wf(p:lT):Prop:=p.key<2^64∧p.init<2^64
def dP.wf(p:dP):Prop:=p.ji<2^64
def cb.wf(p:cb):Prop:=p.key<2^64∧(∀x∈p.dw,x.wf)∧p.dw.length≤maxLen
def cS.wf(p:cS):Prop:=p.key<2^64∧(∀x∈p.steps,x.wf)∧p.steps.length≤maxLen
def cM.wf(c:cM):Prop:=(∀x∈c.props,x.wf)∧c.path.wf∧c.props.length≤maxLen
abbrev Ui:Ty:=.int .u64
abbrev SW:Ty:=.struct (.cons B2 (.cons B2 (.cons Dc (.cons Ui (.cons Ui .nil)))))
abbrev LO:Ty:=.struct (.cons Ui (.cons Dc .nil))
abbrev LP:Ty:=.struct (.cons Ui (.cons (.slice 2 LO) .nil))
abbrev LQ:Ty:=.struct (.cons Ui (.cons Dc (.cons (.slice 2 LP) .nil)))
abbrev Yv:Ty:=.struct (.cons Dc (.cons B2 (.cons B2 (.cons (.slice 5 SW) (.cons .bool (.cons LQ (.cons Dc (.cons Dc .nil))))))))
theorem yB{x:List AV}(h:cO Ui x):∃n:Nat,x=[.v (.int .u64 n)]∧n<2^64:=by
  obtain⟨a,rfl,ha⟩:=nf h;obtain⟨n,rfl,hn⟩:=HA ha;exact⟨n,rfl,hn⟩
theorem cO.Yw{x:List AV}(h:cO LO x):∃p:dP,x=p.cells∧p.wf:=by
  obtain⟨x1,y1,rfl,t1,h⟩:=cW (js h);obtain⟨x2,y2,rfl,t2,h⟩:=cW h;obtain rfl:=sU h;obtain⟨n1,rfl,h1⟩:=yB t1;obtain⟨l2,rfl,_⟩:=t2.bytes;exact⟨⟨n1,l2⟩,rfl,h1⟩
theorem cO.Yx{x:List AV}(h:cO LP x):∃p:cb,x=p.cells∧p.wf:=by
  obtain⟨x1,y1,rfl,t1,h⟩:=cW (js h);obtain⟨x2,y2,rfl,t2,h⟩:=cW h;obtain rfl:=sU h;obtain⟨n1,rfl,h1⟩:=yB t1;obtain⟨l,rfl,hl,hm⟩:=cO.row (c:=dP.cells) (Q:=dP.wf) (fun el h=>cO.Yw h) t2;exact⟨⟨n1,l⟩,rfl,h1,hl,hm⟩
theorem cO.U7{x:List AV}(h:cO LQ x):∃p:cS,x=p.cells∧p.wf:=by
  obtain⟨x1,y1,rfl,t1,h⟩:=cW (js h);obtain⟨x2,y2,rfl,t2,h⟩:=cW h;obtain⟨x3,y3,rfl,t3,h⟩:=cW h;obtain rfl:=sU h;obtain⟨n1,rfl,h1⟩:=yB t1;obtain⟨l2,rfl,_⟩:=t2.bytes;obtain⟨l,rfl,hl,hm⟩:=cO.row (c:=cb.cells) (Q:=cb.wf) (fun el h=>cO.Yx h) t3;exact⟨⟨n1,l2,l⟩,rfl,h1,hl,hm⟩
def lT.right(p:lT):Prop:=
  (p.kind=1∧p.leaf=0∧1≤p.name.length∧p.name.length≤16∧Rc p.key∧Rc p.init)∨
  (p.kind=2∧0≤p.leaf∧p.leaf<32∧p.name.length=0∧Rc p.key∧p.init=0)∨
  (p.kind=3∧0≤p.leaf∧p.leaf<32∧p.name.length=0∧p.key=0∧p.init=0)
def dP.right(p:dP):Prop:=Rc p.ji∧p.text.length=48
def cb.right(p:cb):Prop:=(∀x∈p.dw,x.right)∧Rc p.key∧p.dw.length≤32
def cS.right(p:cS):Prop:=(∀x∈p.steps,x.right)∧Rc p.key∧(p.parent.length=0∨p.parent.length=32)∧p.steps.length≤5
def cS.none(p:cS):Prop:=p.key=0∧p.parent.length=0∧p.steps.length=0
def cM.GF(c:cM):Prop:=(c.xc=true→c.path.right)∧(c.xc=false→c.path.none)
def cM.right(c:cM):Prop:=
  (∀x∈c.props,x.right)∧(1≤c.group.length∧c.group.length≤16)∧(0≤c.ij∧c.ij≤1048576)∧(0≤c.Cx∧c.Cx<32)∧c.props.length≤16∧c.GF∧c.Cy.length=32∧c.GD.length=32
instance(p:lT):Decidable p.right:=by unfold lT.right;infer_instance
instance(p:dP):Decidable p.right:=by unfold dP.right;infer_instance
instance(p:cb):Decidable p.right:=by unfold cb.right;infer_instance
instance(p:cS):Decidable p.right:=by unfold cS.right;infer_instance
instance(p:cS):Decidable p.none:=by unfold cS.none;infer_instance
instance(c:cM):Decidable c.GF:=by unfold cM.GF;infer_instance
instance(c:cM):Decidable c.right:=by unfold cM.right;infer_instance
def aW(t:List af):AV:=.sl 5 t.length (aK af.cells t) .any
def dE(t:List af):Prop:=t.length≤2^61∧∀n∈t,n.ig.length≤2^61∧n.key<2^64
def nd(t:List af)(i:Nat):af:=t.getD i af.gH
theorem rR{t:List af}{i:Nat}(h:i<t.length):nd t i=t[i]:=by simp[nd,List.getD,h]
theorem dE.nd{t:List af}(h:dE t)(i:Nat):(nd t i).ig.length≤2^61∧(nd t i).key<2^64:=by
  by_cases hi:i<t.length
  · rw[rR hi];exact h.2 _ (List.getElem_mem hi)
  · have :Go.AM.nd t i=af.gH:=(by simp[Go.AM.nd,List.getD,show t.length≤i by omega]);rw[this];exact⟨by decide,by decide⟩
theorem cK{t:List af}{i:Nat}(h:i<t.length):List.take 5 (List.drop (i*5) (aK af.cells t))=(nd t i).cells:=by
  rw[rR h];exact mV (k:=5) (fun _=>rfl) h
def aM(t:List af):Nat:=if Fit ((t.length+1)/2)∧t.length=2*((t.length+1)/2)-1 then(t.length+1)/2 else 0
theorem bU{t:List af}:aM t=0∨(Fit (aM t)∧t.length=2*aM t-1):=by
  unfold aM;split
  · rename_i h;exact .inr h
  · exact .inl rfl
theorem Ct(t:List af):aM t≤32:=by
  rcases bU (t:=t) with h|h
  · omega
  · exact h.1.le.2
theorem Ll{t:List af}{i:Nat}(h:i<aM t):2*i<t.length:=by
  rcases bU (t:=t) with h0|h0
  · omega
  · omega
def eg(t:List af)(i:Int):Prop:=0≤i∧i<(aM t:Int)∧(nd t (2*i.toNat)).kind=1
instance(t:List af)(i:Int):Decidable (eg t i):=by unfold eg;infer_instance
def cy(t:List af)(i:Int):Prop:=0≤i∧2*i<(t.length:Int)∧(nd t (2*i.toNat)).kind=1
instance(t:List af)(i:Int):Decidable (cy t i):=by unfold cy;infer_instance
theorem yC{t:List af}(h:aM t≠0)(i:Int):cy t i↔eg t i:=by
  rcases bU (t:=t) with h0|h0
  · exact absurd h0 h
  · have:=h0.1.le;unfold cy eg;constructor<;>(rintro⟨a,b,c⟩;exact⟨a,by omega,c⟩)
def fS(P:Int→Prop)[DecidablePred P](a:Nat):Nat→Nat
  |0=>0
  |k+1=>fS P a k+if P ((a+k:Nat):Int) then 1 else 0
theorem Cz(P:Int→Prop)[DecidablePred P](a:Nat):∀k,fS P a k≤k
  |0=>Nat.le_refl _
  |k+1=>by
    have:=Cz P a k;simp only[fS];split <;>omega
theorem rS{P Q:Int→Prop}[DecidablePred P][DecidablePred Q](h:∀i,P i↔Q i)(a:Nat):∀k,fS P a k=fS Q a k
  |0=>rfl
  |k+1=>by simp only[fS,rS h a k,h]
theorem yD{P:Int→Prop}[DecidablePred P]{a:Nat}:∀{k},0<fS P a k↔∃j,j<k∧P ((a+j:Nat):Int)
  |0=>by simp[fS]
  |k+1=>by
    simp only[fS];constructor
    · intro h;by_cases hp:P ((a+k:Nat):Int)
      · exact⟨k,by omega,hp⟩
      · rw[if_neg hp] at h;obtain⟨j,h1,h2⟩:=(yD (k:=k)).1 (by omega);exact⟨j,by omega,h2⟩
    · rintro⟨j,h1,h2⟩;by_cases e:j=k
      · rw[←e,if_pos h2];omega
      · have:=(yD (k:=k)).2 ⟨j,by omega,h2⟩;omega
def cc(P:Nat→Bool):Nat→Nat→Int
  |0,_=>-1
  |k+1,i=>if P i then(i:Int) else cc P k (i+1)
theorem mG(P:Nat→Bool):∀k i,(cc P k i= -1∧∀j,i≤j→j<i+k→P j=false)∨(∃j,i≤j∧j<i+k∧P j=true∧cc P k i=(j:Int)∧∀m,i≤m→m<j→P m=false)
  |0,i=>.inl ⟨rfl,fun j h1 h2=>by omega⟩
  |k+1,i=>by
    simp only[cc];cases hp:P i with
    |true=>exact .inr ⟨i,Nat.le_refl _,by omega,hp,by simp,fun m h1 h2=>by omega⟩
    |false=>
      simp only[Bool.false_eq_true,if_false];rcases mG P k (i+1) with⟨h1,h2⟩|⟨j,h1,h2,h3,h4,h5⟩
      · refine .inl ⟨h1,fun j a b=>?_⟩;by_cases e:j=i
        · rw[e,hp]
        · exact h2 j (by omega) (by omega)
      · refine .inr ⟨j,by omega,by omega,h3,h4,fun m a b=>?_⟩;by_cases e:m=i
        · rw[e,hp]
        · exact h5 m (by omega) b
theorem uT(P:Nat→Bool)(k i:Nat):decide (0≤cc P k i)=true↔∃j,i≤j∧j<i+k∧P j=true:=by
  rw[decide_eq_true_iff];rcases mG P k i with⟨h1,h2⟩|⟨j,h1,h2,h3,h4,h5⟩
  · rw[h1];constructor
    · intro h;omega
    · rintro⟨j,a,b,c⟩;rw[h2 j a b] at c;cases c
  · rw[h4];exact⟨fun _=>⟨j,h1,h2,h3⟩,fun _=>by omega⟩
def gJ(t:List af):Nat:=(t.length+1)/2
theorem yE{t:List af}{i:Nat}:i<gJ t↔2*i<t.length:=by unfold gJ;omega
def og(t:List af)(name:List UInt8)(a:Nat):Int:=cc (fun j=>decide (eg t j∧(nd t (2*j)).name=name)) (gJ t-a) a
def rT(t:List af)(name:List UInt8):Int:=cc (fun j=>decide (cy t j∧(nd t (2*j)).name=name)) (gJ t) 0
def qa(t:List af)(i:Nat):Prop:=
  (nd t i).right∧((nd t i).kind=0∨((nd t i).kind=1↔i%2=0))∧∀u∈(nd t i).ig,(ju (i:Int)).1≤u∧u≤(ju (i:Int)).2∧eg t u
instance(t:List af)(i:Nat):Decidable (qa t i):=by unfold qa;infer_instance
def gi(t:List af)(i:Nat):Prop:=qa t i∧(i%2=0→eg t ((i/2:Nat):Int)→∀j,j<gJ t→i/2<j→¬(eg t (j:Int)∧(nd t (2*j)).name=(nd t i).name))
def bd(t:List af):Prop:=aM t≠0∧(∀i,i<t.length→gi t i)∧(aM t=1∨0<fS (eg t) (aM t/2) (aM t-aM t/2))
instance(t:List af)(i:Nat):Decidable (gi t i):=by unfold gi;infer_instance
instance(t:List af):Decidable (bd t):=by unfold bd;infer_instance
theorem yF(P:Int→Bool)(l:List Int):decide (0≤cc (fun i=>P (l.getD i 0)) l.length 0)=l.any P:=by
  rw[Bool.eq_iff_iff,uT,List.any_eq_true];constructor
  · rintro⟨j,_,h2,h3⟩;have hj:j<l.length:=(by omega);refine⟨l[j],List.getElem_mem hj,?_⟩;simpa[List.getD,hj] using h3
  · rintro⟨x,hx,hp⟩;obtain⟨j,hj,rfl⟩:=List.getElem_of_mem hx;exact⟨j,Nat.zero_le _,by omega,by simpa[List.getD,hj] using hp⟩
theorem jY{P:Nat→Bool}{k i:Nat}(h:P i=false):cc P (k+1) i=cc P k (i+1):=by simp only[cc,h];rfl
theorem jX{P:Nat→Bool}{k i:Nat}(h:P i=true):cc P (k+1) i=(i:Int):=by simp only[cc,h];rfl
theorem GG{t:List af}{n:Nat}(h:Fit n)(hl:t.length=2*n-1):aM t=n:=by
  have:=h.le;unfold aM;rw[show(t.length+1)/2=n by omega];exact if_pos ⟨h,hl⟩
theorem LR{t:List af}(h:∀n,Fit n→t.length≠2*n-1):aM t=0:=by
  unfold aM;rw[if_neg];rintro⟨a,b⟩;exact h _ a b
theorem O0{j:Nat}(h:j≤5):Fit (2^j):=(by decide:∀j≤5,Fit (2^j)) j h
def tF(t:List af)(i:Nat):Prop:=
  (nd t i).right∧((nd t i).kind=0∨((nd t i).kind=1↔i%2=0))∧((nd t i).kind=1→rT t (nd t i).name=((i/2:Nat):Int))∧∀u∈(nd t i).ig,(ju (i:Int)).1≤u∧u≤(ju (i:Int)).2∧cy t u
theorem vT{t:List af}(name:List UInt8):(∃j,j<gJ t∧cy t (j:Int)∧(nd t (2*j)).name=name∧rT t name=(j:Int)∧∀m,m<j→¬(cy t (m:Int)∧(nd t (2*m)).name=name))∨(rT t name= -1∧∀j,j<gJ t→¬(cy t (j:Int)∧(nd t (2*j)).name=name)):=by
  rcases mG (fun(j:Nat)=>decide (cy t (j:Int)∧(nd t (2*j)).name=name)) (gJ t) 0 with⟨h1,h2⟩|⟨j,h1,h2,h3,h4,h5⟩
  · exact .inr ⟨h1,fun j hj=>of_decide_eq_false (h2 j (Nat.zero_le _) (by omega))⟩
  · obtain⟨h6,h7⟩:=of_decide_eq_true h3;exact .inl ⟨j,by omega,h6,h7,h4,fun m hm=>of_decide_eq_false (h5 m (Nat.zero_le _) hm)⟩
theorem EG{t:List af}(h0:aM t≠0):(∀i,i<t.length→tF t i)↔(∀i,i<t.length→gi t i):=by
  have hlen:t.length=2*aM t-1:=(bU.resolve_left h0).2;have hm:=yC (t:=t) h0;have cu:∀i,tF t i→qa t i:=fun i ⟨a,b,_,d⟩=>⟨a,b,fun u hu=>⟨(d u hu).1,(d u hu).2.1,(hm u).1 (d u hu).2.2⟩⟩;constructor
  · intro h i hi;refine⟨cu i (h i hi),fun he Ns j hj hij ⟨hmj,hnj⟩=>?_⟩;have h2j:2*j<t.length:=yE.1 hj;have Yy:=(h (2*j) h2j).2.2.1 (by have:=hmj.2.2;rwa [Int.toNat_natCast] at this);rw[show 2*j/2=j by omega] at Yy;rcases vT (t:=t) (nd t (2*j)).name with⟨k,_,_,_,h4,h5⟩|⟨h4,_⟩
    · rw[Yy] at h4;refine h5 (i/2) (by omega) ⟨(hm _).2 Ns,?_⟩;rw[show 2*(i/2)=i by omega,hnj]
    · rw[Yy] at h4;omega
  · intro h i hi;obtain⟨⟨a,b,c⟩,_⟩:=h i hi;refine⟨a,b,fun hk=>?_,fun u hu=>⟨(c u hu).1,(c u hu).2.1,(hm u).2 (c u hu).2.2⟩⟩;have he:i%2=0:=by
      rcases b with b|b
      · omega
      · exact b.1 hk
    have fj:2*(i/2)=i:=(by omega);have Ns:eg t ((i/2:Nat):Int):=⟨by omega,by omega,by rw[Int.toNat_natCast,fj];exact hk⟩;rcases vT (t:=t) (nd t i).name with⟨k,h1,h2,h3,h4,h5⟩|⟨_,h5⟩
    · rw[h4];by_cases e:k=i/2
      · rw[e]
      · exfalso;by_cases bJ:k<i/2
        · have hg:=(h (2*k) (by omega)).2 (by omega) (by rw[show 2*k/2=k by omega];exact(hm _).1 h2) (i/2) (by unfold gJ;omega) (by omega);refine hg ⟨Ns,?_⟩;rw[fj,h3]
        · exact h5 (i/2) (by omega) ⟨(hm _).2 Ns,by rw[fj]⟩
    · exact absurd ⟨(hm _).2 Ns,by rw[fj]⟩ (h5 (i/2) (by unfold gJ;omega))
structure H3 where
  leaf:Int
  name:List UInt8
  deriving DecidableEq
def H3.cells(x:H3):List AV:=[.v (.int .i64 x.leaf),al x.name .any]
theorem bd.len{t:List af}(h:bd t):t.length=2*aM t-1∧Fit (aM t):=by
  have h1:=(bU.resolve_left h.1);exact⟨h1.2,h1.1⟩
theorem bd.nd{t:List af}(h:bd t)(i:Nat):(nd t i).right:=by
  by_cases hi:i<t.length
  · exact(h.2.1 i hi).1.1
  · have :Go.AM.nd t i=af.gH:=(by simp[Go.AM.nd,List.getD,show t.length≤i by omega]);rw[this];exact Ci
theorem qu{n:Nat}(h:n<63)(hl:lv n=0):fX (n:Int)=none:=by unfold fX;rw[eH h,if_pos hl]
theorem mH{n l:Nat}(h:n<63)(hl:lv n=l+1):fX (n:Int)=some (((n-2^l:Nat):Int),((n+2^l:Nat):Int))∧lv (n-2^l)=l∧lv (n+2^l)=l∧n+2^l<63∧2^l≤n∧2^l≤32:=by
  have key:∀n<63,lv n≠0→lv (n-2^(lv n-1))=lv n-1∧lv (n+2^(lv n-1))=lv n-1∧n+2^(lv n-1)<63∧2^(lv n-1)≤n∧2^lv n/2=2^(lv n-1)∧2^(lv n-1)≤32:=(by decide+kernel);obtain⟨k1,k2,k3,k4,k5,k6⟩:=key n h (by omega);rw[hl] at k1 k2 k3 k4 k5 k6;simp only[Nat.add_sub_cancel] at k1 k2 k3 k4 k5 k6;refine⟨?_,k1,k2,k3,k4,k6⟩;unfold fX;rw[eH h,if_neg (by omega),hl,k5];congr 2;omega
theorem O1{L n:Nat}(h:Fit L)(hn:n<2*L-1):n+2^lv n≤2*L-1∧n<63:=by
  obtain⟨m,hm,rfl⟩:=h.pow;exact(by decide+kernel:∀m≤5,∀n<2*2^m-1,n+2^lv n≤2*2^m-1∧n<63) m hm n hn
theorem bd.span{t:List af}(h:bd t){n:Nat}(hn:n<t.length):n+2^lv n≤t.length∧n<63:=by
  obtain⟨h1,h2⟩:=h.len;rw[h1] at hn⊢;exact O1 h2 hn
def iu(skip:List Int)(l:List Int):List Int:=(l.filter fun u=>decide (u∉skip)).map fun u=>2*u
def kI(skip:List Int)(N:af)(n:Nat):List Int:=if(N.kind=1∧((n/2:Nat):Int)∉skip)∨N.kind=2 then[(n:Int)] else[]
def fy(t:List af)(skip:List Int):Nat→Nat→List Int
  |0,n=>kI skip (nd t n) n++iu skip (nd t n).ig
  |l+1,n=>if(nd t n).kind=0 then fy t skip l (n-2^l)++fy t skip l (n+2^l) else kI skip (nd t n) n++iu skip (nd t n).ig
theorem nv{N:af}(h:N.right):N.ig.length≤32∧∀u∈N.ig,0≤u∧u<32:=by
  rcases iX h with hk|hk|hk
  · rw[(lM hk).1 h];exact⟨by decide,(by intro u hu;cases hu)⟩
  · have:=((eY hk).1 h).2.2.2;rw[List.eq_nil_of_length_eq_zero this];exact⟨by decide,(by intro u hu;cases hu)⟩
  · have:=((fJ hk).1 h).2.2;exact⟨nZ this,fun u hu=>rH this hu⟩
theorem tG(skip l:List Int):(iu skip l).length≤l.length:=by
  unfold iu;rw[List.length_map];exact List.length_filter_le _ _
theorem Bo{skip l:List Int}{i:Nat}(h:i<l.length):iu skip (l.take (i+1))=iu skip (l.take i)++if l[i]∉skip then[2*l[i]] else[]:=by
  unfold iu;rw[List.take_succ_eq_append_getElem h,List.filter_append,List.map_append];congr 1;by_cases hs:l[i]∉skip
  · rw[if_pos hs];simp[hs]
  · rw[if_neg hs];simp[hs]
theorem qv(skip:List Int)(N:af)(n:Nat):(kI skip N n).length≤1:=by
  unfold kI;split <;>simp
theorem j9{t:List af}(hr:bd t)(skip:List Int):∀l n,(fy t skip l n).length≤33*2^l
  |0,n=>by
    have h1:=qv skip (nd t n) n;have h2:=tG skip (nd t n).ig;have h3:=(nv (hr.nd n)).1;simp only[fy,List.length_append];omega
  |l+1,n=>by
    have hp:=Nat.two_pow_pos l;have Lm:2^(l+1)=2^l+2^l:=(by rw[Nat.pow_succ];omega);simp only[fy];split
    · have h1:=j9 hr skip l (n-2^l);have h2:=j9 hr skip l (n+2^l);rw[List.length_append];omega
    · have h1:=qv skip (nd t n) n;have h2:=tG skip (nd t n).ig;have h3:=(nv (hr.nd n)).1;rw[List.length_append];omega
def bA(t:List af)(x:Int)(skip:List Int):List Int:=if 0≤x∧x<(t.length:Int)∧bd t then fy t skip (lv x.toNat) x.toNat else[]
open Go Go.RowKit
variable{P:Program}{Γ:Nat→List AV}{G:Gh}{s:AS}{w:World}{N:Nat}
def vU:AV→Option Nat
  |.gR o _ _ _ _=>some o
  |_=>none
def gj(p:af×AV):List AV:=[.v (.int .i64 p.1.kind),al p.1.name .any,.v (.int .u64 p.1.key),al p.1.parent .any,p.2]
theorem GH(p:af×AV):(gj p).length=5:=rfl
theorem jb(n:af):n.cells.length=5:=rfl
theorem ni.le{sz n:Nat}{x:AV}{cs:List AV}{s s':AS}(h:ni sz s x n cs)(k:s.le s'):ni sz s' x n cs:=by
  rcases h with h|⟨o,cap,rest,h1,h2,h3⟩
  · exact .inl h
  · exact .inr ⟨o,cap,rest,h1,k.aw _ _ h2,h3⟩
theorem ni.mX{sz n:Nat}{x:AV}{cs:List AV}{s:AS}{o:Nat}{ds:List AV}(h:ni sz s x n cs)(k:vU x≠some o):ni sz (s.set o ds) x n cs:=by
  rcases h with h|⟨o',cap,rest,rfl,h2,h3⟩
  · exact .inl h
  · exact .inr ⟨o',cap,rest,rfl,by rw[AS.ao _ (fun e=>k (by rw[e];rfl))];exact h2,h3⟩
theorem ni.O2{sz n:Nat}{x:AV}{cs:List AV}{s:AS}{o:Nat}(h:ni sz s x n cs)(k:vU x≠some o):ni sz (s.drop o) x n cs:=by
  rcases h with h|⟨o',cap,rest,rfl,h2,h3⟩
  · exact .inl h
  · exact .inr ⟨o',cap,rest,rfl,by rw[AS.qi,gS _ _ (fun e=>k (by rw[e];rfl))];exact h2,h3⟩
theorem ni.some{sz n:Nat}{x:AV}{cs:List AV}{s:AS}{o:Nat}(h:ni sz s x n cs)(k:vU x=some o):∃ds,s.aw o=some ds:=by
  rcases h with⟨_,_,rfl|rfl|rfl⟩|⟨o',cap,rest,rfl,h2,h3⟩
  · cases k
  · cases k
  · cases k
  · cases k;exact⟨_,h2⟩
theorem yG{sz:Nat}{sp:Sp}(h:sp=.full∨sp=.new):(AV.sl sz 0 [] sp).aB (.sl sz 0 [] .any):=by
  intro G u hv;simp only[av] at hv⊢;rcases hv with⟨b,off,cap,vs,h1,h2,h3,h4,h5,h6⟩|⟨_,_,a,cap,h1,_⟩|⟨_,_,h1,_⟩
  · exact .inl ⟨b,off,cap,vs,h1,h2,h3,h4,h5,trivial⟩
  · exact .inr (.inl ⟨trivial,trivial,a,cap,h1,by simp⟩)
  · rcases h with rfl|rfl<;>cases h1
structure SX(s0 s:AS)(T:List (af×AV)):Prop where
  buf:∀p∈T,ni 1 s p.2 p.1.ig.length (p.1.ig.map aI)
  new:∀p∈T,∀o,vU p.2=some o→s0.aw o=none
  sep:T.Pairwise fun p q=>∀o,vU p.2=some o→vU q.2≠some o
structure oM(s0 s:AS)(X:AV)(T:List (af×AV)):Prop where
  xs:SX s0 s T
  le:s0.le s
  row:ni 5 s X T.length (aK gj T)
  O3:∀O,vU X=some O→s0.aw O=none
  SY:∀O,vU X=some O→∀p∈T,vU p.2≠some O
theorem AS.le_none{s s':AS}(h:s.le s'){o:Nat}(k:s'.aw o=none):s.aw o=none:=by
  cases hs:s.aw o with
  |none=>rfl
  |some cs=>rw[h.aw _ _ hs] at k;cases k
theorem oM.nil(s:AS):oM s s bL []:=
  ⟨⟨fun p hp=>absurd hp (List.not_mem_nil),fun p hp=>absurd hp (List.not_mem_nil),.nil⟩,.refl s,.inl ⟨rfl,rfl,.inl rfl⟩,(fun O h=>by cases h),(fun O h=>by cases h)⟩
theorem oM.push{s0 s:AS}{X:AV}{T:List (af×AV)}{p:af×AV}{ob cap:Nat}{rest:List AV}(h:oM s0 s X T)(hb:ni 1 s p.2 p.1.ig.length (p.1.ig.map aI))
    (h1:∀o,vU p.2=some o→s0.aw o=none∧(∀q∈T,vU q.2≠some o)∧vU X≠some o) (h2:s.aw ob=none∨∃rF,X=.gR ob 0 5 T.length rF) (h3:T.length+1≤cap) (h4:cap<2^63) (h5:rest.length=(cap-(T.length+1))*5):
    oM s0 (s.set ob (aK gj T++gj p++rest)) (.gR ob 0 5 (T.length+1) cap) (T++[p]):=by
  have Yz:s0.aw ob=none:=by
    rcases h2 with h2|⟨rF,h2⟩
    · exact AS.le_none h.le h2
    · exact h.O3 ob (by rw[h2];rfl)
  have dK:∀q∈T++[p],vU q.2≠some ob:=by
    intro q hq e;rw[List.mem_append,List.mem_singleton] at hq;rcases h2 with h2|⟨rF,h2⟩
    · have :∃ds,s.aw ob=some ds:=by
        rcases hq with hq|rfl
        · exact(h.xs.buf q hq).some e
        · exact hb.some e
      rw[h2] at this;obtain⟨ds,hd⟩:=this;cases hd
    · have hX:vU X=some ob:=(by rw[h2];rfl);rcases hq with hq|rfl
      · exact h.SY ob hX q hq e
      · exact(h1 ob e).2.2 hX
  refine⟨⟨fun q hq=>?_,fun q hq o ho=>?_,?_⟩,AS.aE h.le Yz _,.inr ⟨ob,cap,rest,by rw[List.length_append];rfl,by rw[AS.ae,LN],?_,by rw[List.length_append];exact h5,by rw[List.length_append];exact h3,h4⟩,fun O hO=>?_,fun O hO q hq=>?_⟩
  · have I8:=hq;rw[List.mem_append,List.mem_singleton] at hq;rcases hq with hq|rfl
    · exact(h.xs.buf q hq).mX (dK q I8)
    · exact hb.mX (dK q I8)
  · rw[List.mem_append,List.mem_singleton] at hq;rcases hq with hq|rfl
    · exact h.xs.new q hq o ho
    · exact(h1 o ho).1
  · rw[List.pairwise_append];refine⟨h.xs.sep,List.pairwise_singleton _ _,fun a ha b Km o ho=>?_⟩;rw[List.mem_singleton] at Km;subst Km;intro e;exact(h1 o e).2.1 a ha ho
  · exact cL GH _
  · cases hO;exact Yz
  · cases hO;exact dK q hq
theorem Jl{s0:AS}{O:Nat}{rest:List AV}(JV:s0.aw O=none)(x:AV):∀(B:List (af×AV))(A:List af)(s:AS),SX s0 s B→s0.le s→(∀p∈B,vU p.2≠some O)→s.aw O=some (aK af.cells A++aK gj B++rest)→
    ∃s',cg Γ s x s' x∧s'.aw O=some (aK af.cells (A++B.map (·.1))++rest)∧s0.le s':=by
  intro B;induction B with
  |nil=>
    intro A s _ hle _ hO;refine⟨s,.refl x,?_,hle⟩;simpa[aK] using hO
  |cons p B ih=>
    intro A s hx hle dK hO;have SZ:aK af.cells A++aK gj (p::B)++rest=(aK af.cells A++[.v (.int .i64 p.1.kind),al p.1.name .any,.v (.int .u64 p.1.key),al p.1.parent .any])++p.2::(aK gj B++rest):=by
      simp[aK,gj]
    rw[SZ] at hO;have Re:(aK af.cells A++[.v (.int .i64 p.1.kind),al p.1.name .any,.v (.int .u64 p.1.key),al p.1.parent .any])++aF p.1.ig .any::(aK gj B++rest)=aK af.cells (A++[p.1])++aK gj B++rest:=by
      simp[aK,af.cells]
    have YB:=List.pairwise_cons.1 hx.sep;have hp:p∈p::B:=List.mem_cons_self;have Bp:∀s':AS,(∀q∈B,ni 1 s' q.2 q.1.ig.length (q.1.ig.map aI))→SX s0 s' B:=fun s' h=>⟨h,fun q hq=>hx.new q (List.mem_cons_of_mem _ hq),YB.2⟩;rcases hx.buf p hp with⟨h0,uj,hv⟩|⟨o,cap,rs,hv,ho,iF,uF,BQ,Db⟩
    · have hw:p.2.aB (aF p.1.ig .any):=by
        have hu:p.1.ig=[]:=List.eq_nil_of_length_eq_zero h0;rw[hu];rcases hv with hv|hv|hv
        · rw[hv];exact AV.aN
        · rw[hv];exact yG (.inl rfl)
        · rw[hv];exact yG (.inr rfl)
      have h1:=cg.cells (Γ:=Γ) x hO hw;rw[Re] at h1;obtain⟨s',k1,k2,k3⟩:=ih (A++[p.1]) _ (Bp _ fun q hq=>(hx.buf q (List.mem_cons_of_mem _ hq)).mX (dK q (List.mem_cons_of_mem _ hq))) (AS.aE hle JV _) (fun q hq=>dK q (List.mem_cons_of_mem _ hq)) (AS.ae _ _ _);refine⟨s',h1.trans k1,?_,k3⟩;simpa using k2
    · have hpo:vU p.2=some o:=(by rw[hv];rfl);have hOo:O≠o:=fun e=>dK p hp (by rw[hpo,e]);rw[hv] at hO;have h1:=cg.inner (Γ:=Γ) x hO ho hOo iF;have e:(AV.sl 1 p.1.ig.length (p.1.ig.map aI) .any)=aF p.1.ig .any:=rfl;rw[e,Re] at h1;obtain⟨s',k1,k2,k3⟩:=ih (A++[p.1]) _ (Bp _ fun q hq=>((hx.buf q (List.mem_cons_of_mem _ hq)).O2 (YB.1 q hq o hpo)).mX (dK q (List.mem_cons_of_mem _ hq))) (AS.aE (AS.sB hle (hx.new p hp o hpo)) JV _) (fun q hq=>dK q (List.mem_cons_of_mem _ hq)) (AS.ae _ _ _);refine⟨s',h1.trans k1,?_,k3⟩;simpa using k2
open Go Go.RowKit Go.Shelf Go.Proofs
theorem aP.drewN(h:aP Γ G s w):∀q,aP Γ G s (w.drewN q)
  |0=>h
  |q+1=>(aP.drewN h q).drew
open Go Go.RowKit Go.Shelf Go.Proofs Go.Sort
theorem aP.grow(h:aP Γ G s w)(os:Array Obj):aP Γ G s (Go.Sort.grow w os):=by
  refine h.ext ?_;exact(Below.refl _ _).grown (row:=none) ⟨rfl,rfl,rfl,by simp,fun i hi _=>by simp[Go.Sort.grow,Array.getElem?_append,hi]⟩ (Nat.le_refl _) (fun i e=>by cases e)
theorem GI{ρ:Ren}(L:Lays.n189 P ρ){o cap:Nat}{l:List Int}{rest:List AV}(hl:l.length<4611686018427387904)(ho:s.aw o=some (l.map aI++rest)):
    aj P Γ (ρ.f 189) [.gR o 0 1 l.length cap] s (fun r s'=>r=.v (.tuple #[])∧s'=s.set o ((l.mergeSort fun x y=>decide (x≤y)).map aI++rest)):=by
  intro G w vs hsr hv;simp only[au] at hv;obtain⟨u,us,rfl,hx,rfl⟩:=hv;simp only[av] at hx;obtain⟨b,w9,rfl,hn⟩:=hx;obtain⟨b',vs,q1,q2,q3,q4⟩:=hsr.aw o _ ho;rw[w9] at q1;cases q1;have hvt:=q2.take (l.map aI).length;rw[List.take_left] at hvt;have hvt:=au.HN hvt;have hH:Holds (Value.int .i64) w b 0 l.toArray:=by
    intro j hj;have kJ:j<l.length:=(by simpa using hj);rw[Nat.zero_add];have :vs[j]? =some (Value.int .i64 l.toArray[j]!):=by
      have h1:(vs.take (l.map aI).length)[j]? =some (Gj l[j]):=(by rw[hvt];simp[kJ]);rw[List.getElem?_take] at h1;split at h1
      · rw[h1];simp[Gj,kJ]
      · cases h1
    exact⟨(q4 j _ this).1,(q4 j _ this).2.1⟩
  refine(calls_of_every_depth fun D=>AnyS.slices_Sort_int_in L D b 0 cap l w hH (hsr.cV o b w9) hl).mono ?_;rintro e w' ⟨rfl,n,os,rfl⟩;rw[Go.Lib.putRow_eq_setCells (Value.int .i64) w b 0 l.toArray _ n hH (by simp)];have sm:(l.mergeSort fun x y=>decide (x≤y)).length=l.length:=(by simp);generalize (l.mergeSort fun x y=>decide (x≤y))=m at sm⊢;obtain⟨_,_,f3⟩:=kP (hsr.drewN n) ho w9 (off:=0) (ds:=m.map aI) (us:=m.map Gj) (by simp;omega) (au.ints _);have ha:=pJ (m.map aI) [] (l.map aI++rest) (by simp;omega);simp only[List.nil_append,List.length_nil,List.length_map,sm] at ha;rw[show(l.map aI++rest).drop l.length=rest by rw[List.drop_append_of_le_length (by simp)];simp] at ha;rw[ha] at f3;exact⟨G,.v (.tuple #[]),_,_,rfl,.refl G,aP.grow f3 os,by simp[av],rfl,rfl⟩
end Go.AM
namespace Go.Proofs.YtbiefppedlodiaaGreatDoor
open Go Go.AM Go.Proofs Tryz
variable{Γ:Nat→List AV}
def xcd:Go.Shelf.Ren:=⟨fun |125=>194|128=>229|129=>230|189=>159|215=>248|216=>226|257=>193|294=>220|295=>221|296=>222|297=>223|298=>224|299=>225|300=>227|301=>228|328=>243|329=>244|330=>245|331=>246|332=>247|343=>254|n=>n,fun |28=>24|46=>185|51=>214|53=>29|131=>119|182=>239|183=>240|218=>257|222=>260|228=>266|229=>58|n=>n,fun n=>n⟩
theorem YC:Lays.n189 prog xcd where
  mixed:=by kernel_rfl
  f125:=(func194).trans (congrArg some (by kernel_rfl))
  f128:=(func229).trans (congrArg some (by kernel_rfl))
  f129:=(func230).trans (congrArg some (by kernel_rfl))
  f189:=(func159).trans (congrArg some (by kernel_rfl))
  f215:=(func248).trans (congrArg some (by kernel_rfl))
  f216:=(func226).trans (congrArg some (by kernel_rfl))
  f257:=(func193).trans (congrArg some (by kernel_rfl))
  f294:=(func220).trans (congrArg some (by kernel_rfl))
  f295:=(func221).trans (congrArg some (by kernel_rfl))
  f296:=(func222).trans (congrArg some (by kernel_rfl))
  f297:=(func223).trans (congrArg some (by kernel_rfl))
  f298:=(func224).trans (congrArg some (by kernel_rfl))
  f299:=(func225).trans (congrArg some (by kernel_rfl))
  f300:=(func227).trans (congrArg some (by kernel_rfl))
  f301:=(func228).trans (congrArg some (by kernel_rfl))
  f328:=(func243).trans (congrArg some (by kernel_rfl))
  f329:=(func244).trans (congrArg some (by kernel_rfl))
  f330:=(func245).trans (congrArg some (by kernel_rfl))
  f331:=(func246).trans (congrArg some (by kernel_rfl))
  f332:=(func247).trans (congrArg some (by kernel_rfl))
  f343:=(func254).trans (congrArg some (by kernel_rfl))
  t0:=underlying0
  a0:=isAgg0
  z0:=sizeOf0
  v0:=zeroValue0
  t3:=underlying3
  a3:=isAgg3
  z3:=sizeOf3
  v3:=zeroValue3
  t4:=underlying4
  a4:=isAgg4
  z4:=sizeOf4
  v4:=zeroValue4
  t5:=underlying5
  a5:=isAgg5
  z5:=sizeOf5
  v5:=zeroValue5
  t9:=underlying9
  a9:=isAgg9
  z9:=sizeOf9
  v9:=zeroValue9
  t28:=underlying24
  a28:=isAgg24
  z28:=sizeOf24
  v28:=zeroValue24
  t46:=underlying185
  a46:=isAgg185
  z46:=sizeOf185
  v46:=zeroValue185
  t51:=underlying214
  a51:=isAgg214
  z51:=sizeOf214
  v51:=zeroValue214
  t53:=underlying29
  a53:=isAgg29
  z53:=sizeOf29
  v53:=zeroValue29
  t131:=underlying119
  a131:=isAgg119
  z131:=sizeOf119
  v131:=zeroValue119
  t182:=underlying239
  a182:=isAgg239
  z182:=sizeOf239
  v182:=zeroValue239
  t183:=underlying240
  a183:=isAgg240
  z183:=sizeOf240
  v183:=zeroValue240
  t218:=underlying257
  a218:=isAgg257
  z218:=sizeOf257
  v218:=zeroValue257
  t222:=underlying260
  a222:=isAgg260
  z222:=sizeOf260
  v222:=zeroValue260
  t228:=underlying266
  a228:=isAgg266
  z228:=sizeOf266
  v228:=zeroValue266
  t229:=underlying58
  a229:=isAgg58
  z229:=sizeOf58
  v229:=zeroValue58
theorem LS{o cap:Nat}{l:List Int}{rest:List AV}{s:AS}(hl:l.length<4611686018427387904)(ho:s.aw o=some (l.map aI++rest)):
    aj prog Γ 159 [.gR o 0 1 l.length cap] s (fun r s'=>r=.v (.tuple #[])∧s'=s.set o ((l.mergeSort fun x y=>decide (x≤y)).map aI++rest)):=
  GI YC hl ho
def O4(s s':AS)(r:AV)(l:List Int):Prop:=ni 1 s' r l.length (l.map aI)∧(l=[]→r=bL)∧(∀o,vU r=some o→s.aw o=none)∧s.le s'
def xce(s:AS)(o1:Nat)(l:List Int)(s':AS):Prop:=∃x,s'.aw o1=some [x]∧O4 s s' x l∧vU x≠some o1
theorem wB{gf:FuncId}{cd:List AV}{l:List Int}(JQ:ag prog gf=true)(JR:vG prog Γ gf cd (l.map fun v=>[aI v]))(hl:l.length≤2^40)(s:AS):
  aj prog Γ 192 [bL,.qx gf cd] s (fun r s'=>O4 s s' r l):=by
 refine ya func192 rfl ntmps192 results192 (by simp) ?_;unfold bL;refine qm ?_;intro K hK;refine jM ?_;intro o1 h1;refine hK _ _ ?_;clear hK K;refine qT (by decide) ?_;intro K hK;refine jR hK ?_;clear hK K;refine⟨gf,cd,l.map fun v=>[aI v],fun i s'=>xce s o1 (l.take i) s',by simp only[aO,aH,bC,List.getD_cons_zero,List.getD_cons_succ,Nc,↓reduceIte],JQ,JR,by simp,?_,?_,?_⟩
 ·refine⟨bL,by simp[AS.set,bL],⟨.inl ⟨by simp,by simp,.inl rfl⟩,fun _=>rfl,by simp[bL,vU],AS.aE (AS.le.refl s) h1 _⟩,by simp[bL,vU]⟩
 ·rintro i x s1 hx ⟨b,w9,⟨oi,pA,lB,hle⟩,dK⟩;obtain⟨v,hv,rfl⟩:∃v,l[i]? =some v∧x=[aI v]:=by
   rw[List.getElem?_map] at hx;cases hh:l[i]? with
   |none=>rw[hh] at hx;cases hx
   |some v=>rw[hh] at hx;cases hx;exact⟨v,rfl,rfl⟩
  have hi:i<l.length:=(List.getElem?_eq_some_iff.1 hv).1;have hlen:(l.take i).length=i:=(by simp;omega);have kO:b.one=true:=by
   rcases oi with⟨_,_,rfl|rfl|rfl⟩|⟨_,_,_,rfl,_⟩<;>rfl
  simp only[zO];refine jC ?_;refine⟨rfl,ah ?_⟩;refine wq rfl (by decide) ?_;intro ops;refine jN @w9 ?_;rw[hlen] at oi;refine⟨_,fun G a w hr=>ie (n:=i) (m:=1) (cs:=(l.take i).map aI) (ds:=[aI v]) (e:=3) (z:=[.v (.int .i64 0)]) rfl underlying24 (by simp only[↓DN,Qa,Qb,Qc,Qd,Qe,Qf,Qg,Qh,reduceCtorEq,↓reduceIte,Na,Nb,Nc,Nk,Nf,Ng,Nh,Za,Zb,Zc,TT];try rfl) (by simp only[↓DN,Qa,Qb,Qc,Qd,Qe,Qf,Qg,Qh,reduceCtorEq,↓reduceIte,Na,Nb,Nc,Nk,Nf,Ng,Nh,Za,Zb,Zc,TT];try rfl) (by rw[T.c3];decide) (by rw[T.c3];rfl) (by rw[T.c3];simp only[↓DN,Qa,Qb,Qc,Qd,Qe,Qf,Qg,Qh,reduceCtorEq,↓reduceIte,Na,Nb,Nc,Nk,Nf,Ng,Nh,Za,Zb,Zc,TT,gX,aO,aH,Nc,↓reduceIte];rfl) (by decide) (by rw[T.b3];omega) (by omega) rfl (by rw[T.c3];simpa only[aO,aH,Nc,↓reduceIte] using oi) hr.eval hr.st,?_⟩;rw[T.c3];rintro r s4 ⟨ob,cap,rest,rfl,gu,Db,uF,S1,rfl⟩;simp only[aO,aH,Nc,↓reduceIte] at S1;have S2:o1≠ob:=by
   rintro rfl;rcases S1 with h|⟨rF,rfl⟩
   ·rw[w9] at h;cases h
   ·exact dK rfl
  have Rf:s.aw ob=none:=by
   rcases S1 with h|⟨rF,rfl⟩
   ·exact AS.le_none hle h
   ·exact lB ob rfl
  have dM:(l.take i).map aI++[aI v]=(l.take (i+1)).map aI:=by
   rw[List.take_add_one,hv];simp
  rw[dM];have S3:(s1.set ob ((l.take (i+1)).map aI++rest)).aw o1=some [b]:=by
   rw[AS.ao _ S2];exact w9
  refine jN @S3 ?_;refine⟨_,AS.ae _ _ _,⟨.inr ⟨ob,cap,rest,by rw[show(l.take (i+1)).length=i+1 by simp;omega],?_,by simp,by rw[show(l.take (i+1)).length=i+1 by simp;omega];exact uF,by rw[show(l.take (i+1)).length=i+1 by simp;omega];exact gu,Db⟩,?_,?_,AS.aE (AS.aE hle Rf _) h1 _⟩,?_⟩
  ·rw[AS.ao _ S2.symm,AS.ae]
  ·intro h;have:=congrArg List.length h;rw[List.length_take,List.length_nil] at this;omega
  ·intro o h;simp only[vU,Option.some.injEq] at h;rw[←h];exact Rf
  ·simp only[vU,ne_eq,Option.some.injEq];exact S2.symm
 ·rintro s2 ⟨x,hx1,T3,-⟩;rw[List.length_map,List.take_length] at T3;refine jB @hx1 ?_;refine jI ?_;exact⟨_,_,AV.aB.refl _,AS.le.refl _,T3⟩
theorem Ac{gf:FuncId}{cd:List AV}{l:List Int}(JQ:ag prog gf=true)(JR:vG prog Γ gf cd (l.map fun v=>[aI v]))(hl:l.length≤2^40)(s:AS):
  aj prog Γ 158 [.qx gf cd] s (fun r s'=>O4 s s' r l):=by
 refine aa func158 rfl ntmps158 results158 (by simp) ?_;refine jA ?_;refine jQ fun K hK=>?_;refine ad (wB JQ JR hl _) ?_;rintro r s2 h2;refine jR hK ?_;clear hK K;refine jI ?_;exact⟨_,_,AV.aB.refl _,AS.le.refl _,h2⟩
theorem yH(s:AS):aj prog Γ 230 [.v (.int .u64 0)] s (fun r s'=>(∃k:Int,r=.v (.int .i64 k))∧s'=s):=by
 refine aa func230 rfl ntmps230 results230 (by simp) ?_;refine jA ?_;refine wK fun K hK=>?_;refine jA ?_;refine jF ?_;refine ab ?_;refine hK _ _ ?_;clear hK K;refine wK fun K hK=>?_;refine jA ?_;refine jF ?_;refine ab ?_;refine hK _ _ ?_;clear hK K;refine wK fun K hK=>?_;refine jA ?_;refine jF ?_;refine ab ?_;refine hK _ _ ?_;clear hK K;refine jA ?_;refine jI ?_;exact⟨_,_,AV.aB.refl _,AS.le.refl _,⟨_,rfl⟩,rfl⟩
theorem CA(s:AS):aj prog Γ 194 [.v (.int .u64 0)] s (fun r s'=>(∃k:Int,r=.v (.int .i64 k))∧s'=s):=by
 refine aa func194 rfl ntmps194 results194 (by simp) ?_;refine jA ?_;refine wK fun K hK=>?_;refine jF ?_;refine ab ?_;refine hK _ _ ?_;clear hK K;refine jQ fun K hK=>?_;refine ad (yH _) ?_;rintro r s2 ⟨⟨k,rfl⟩,rfl⟩;refine jR hK ?_;clear hK K;refine jI ?_;exact⟨_,_,AV.aB.refl _,AS.le.refl _,⟨_,rfl⟩,rfl⟩
theorem CB(s:AS):aj prog Γ 220 [bL,.v (.int .i64 0),.v (.int .i64 0)] s (fun r s'=>r=.eo []∧s'=s):=by
 refine aa func220 rfl ntmps220 results220 (by simp) ?_;refine jA ?_;refine ah ?_;refine aD (fun E s'=>E 2=.v (.int .i64 0)∧E 6=.v (.int .i64 1)∧s'=s) (fun _ _=>0) ⟨rfl,rfl,rfl⟩ ?_;rintro E s' ⟨e2,e6,rfl⟩ -
 refine wK fun K2 aX=>?_;refine jB (Ai @e2 @e6) ?_;refine jF ?_;refine aC ?_;simp only[az,ar,if_true];simp only[cf,bt,bD,c7,List.toList_toArray,↓bf];try simp only[UP,DF,Nc,↓reduceIte,DT]
 exact jW ⟨rfl,rfl⟩
theorem CD(k:Int)(s:AS):aj prog Γ 193 [bL,.v (.int .i64 0),.v (.int .i64 0),.v (.int .i64 k)] s (fun r s'=>r=.eo []∧s'=s):=by
 refine aa func193 rfl ntmps193 results193 (by simp) ?_;unfold bL;refine jA ?_;refine jA ?_;refine ah ?_;refine aD (fun E s'=>E 0=.v (.slice none 0 0)∧E 1=.v (.int .i64 0)∧E 2=.v (.int .i64 0)∧s'=s) (fun _ _=>0) ⟨rfl,rfl,rfl,rfl⟩ ?_;rintro E s' ⟨e0,e1,e2,rfl⟩ -
 refine ah ?_;refine jB (Ai @e1 @e2) ?_;refine wK fun K2 aX=>?_;refine jB (Ai (show di .i64 0 0=(0:Int) from rfl) (show(decide ((0:Int)≤12))=true from rfl)) ?_;refine jE ?_;refine jS (Ai @e0 (Ai @e1 @e2)) fun K hK=>?_;refine ad (CB _) ?_;rintro r s2 ⟨rfl,rfl⟩;refine jR hK ?_;clear hK K;refine a8 ?_;simp only[az,ar];simp only[cf,bt,bD,c7,List.toList_toArray,↓bf];try simp only[UP,DF,Nc,↓reduceIte,DT]
 exact jW ⟨rfl,rfl⟩
theorem Ad(s:AS):aj prog Γ 159 [bL] s (fun r s'=>r=.eo []∧s'=s):=by
 refine aa func159 rfl ntmps159 results159 (by simp) ?_;unfold bL;refine jA ?_;refine jT fun K hK=>?_;refine ad (CA _) ?_;rintro r s2 ⟨⟨k,rfl⟩,rfl⟩;refine jM ?_;refine ad (CD k _) ?_;rintro r s3 ⟨rfl,rfl⟩;refine jR hK ?_;clear hK K;simp only[cf,bt,bD,c7,List.toList_toArray,↓bf];try simp only[UP,DF,Nc,↓reduceIte,DT]
 exact jW ⟨rfl,rfl⟩
theorem CE{gf:FuncId}{cd:List AV}{l:List Int}(JQ:ag prog gf=true)(JR:vG prog Γ gf cd (l.map fun v=>[aI v]))(hl:l.length≤2^40)(s:AS):
  aj prog Γ 111 [.qx gf cd] s (fun r s'=>O4 s s' r (l.mergeSort fun x y=>decide (x≤y))):=by
 refine aa func111 rfl ntmps111 results111 (by simp) ?_;refine jA ?_;refine jQ fun K hK=>?_;refine ad (Ac JQ JR hl _) ?_;rintro r s2 ⟨oi,pA,lB,hle⟩;rcases List.eq_nil_or_concat l with rfl|⟨l',v,Gg⟩
 ·obtain rfl:=pA rfl;refine jR hK ?_;clear hK K;refine jK (Ad _) ?_;rintro s3 rfl;refine jA ?_;refine jI ?_;exact jW ⟨by simpa using oi,fun _=>rfl,lB,hle⟩
 ·have ux:0<l.length:=(by rw[Gg];simp);have sm:(l.mergeSort fun x y=>decide (x≤y)).length=l.length:=(by simp);rcases oi with⟨h0,_,_⟩|⟨o,cap,rest,rfl,ho,iF,uF,BQ,Db⟩
  ·omega
  ·refine jR hK ?_;clear hK K;refine jK (LS (by omega) ho) ?_;rintro s3 rfl;refine jA ?_;refine jI ?_;have hn:s.aw o=none:=lB o rfl;refine⟨_,_,AV.aB.refl _,AS.le.refl _,.inr ⟨o,cap,rest,by rw[sm],AS.ae _ _ _,by simp,by rw[sm];exact uF,by rw[sm];exact BQ,Db⟩,?_,lB,AS.aE hle hn _⟩;intro h;rw[h] at sm;simp only[List.length_nil] at sm;omega
end Go.Proofs.YtbiefppedlodiaaGreatDoor
namespace Go.AM
open Go Go.RowKit
def kD(n l:Nat):List Nat:=(dT 6 n l).reverse++[n]
def kZ(n l:Nat):Nat→Nat×Nat
  |0=>(0,2*l-2)
  |j+1=>let s:=kZ n l j;let oX:=(s.1+s.2)/2;if n<oX then(s.1,oX-1) else(oX+1,s.2)
theorem GJ{n l:Nat}(hl:Fit l)(h:n<2*l-1){j:Nat}(hj:j<(kD n l).length):
    (kD n l)[j]? =some (((kZ n l j).1+(kZ n l j).2)/2)∧(j+1=(kD n l).length↔n=((kZ n l j).1+(kZ n l j).2)/2)∧(kZ n l j).1+(kZ n l j).2≤200:=by
  obtain⟨m,hm,rfl⟩:=hl.pow;exact(by decide+kernel:∀m≤5,∀n<2*2^m-1,∀j<(kD n (2^m)).length,(kD n (2^m))[j]? =some (((kZ n (2^m) j).1+(kZ n (2^m) j).2)/2)∧(j+1=(kD n (2^m)).length↔n=((kZ n (2^m) j).1+(kZ n (2^m) j).2)/2)∧(kZ n (2^m) j).1+(kZ n (2^m) j).2≤200) m hm n h j hj
theorem EH{n l:Nat}(hl:Fit l)(h:n<2*l-1):(kD n l).length≤6∧(n≠l-1→2≤(kD n l).length∧(kD n l)[(kD n l).length-2]? =some (oG n)):=by
  obtain⟨m,hm,rfl⟩:=hl.pow;exact(by decide+kernel:∀m≤5,∀n<2*2^m-1,(kD n (2^m)).length≤6∧(n≠2^m-1→2≤(kD n (2^m)).length∧(kD n (2^m))[(kD n (2^m)).length-2]? =some (oG n))) m hm n h
def bZ(n:Nat):Nat:=if n<oG n then oG n+hf (oG n) else oG n-hf (oG n)
theorem nr{n l:Nat}(hl:Fit l)(h:n<2*l-1)(hr:n≠l-1):oG n<63∧lv (oG n)≠0∧hf (oG n)≤oG n∧(n<oG n↔oG n-hf (oG n)=n)∧bZ n<2*l-1:=by
  obtain⟨m,hm,rfl⟩:=hl.pow;exact((by decide+kernel:∀m≤5,∀n<2*2^m-1,n=2^m-1∨(oG n<63∧lv (oG n)≠0∧hf (oG n)≤oG n∧(n<oG n↔oG n-hf (oG n)=n)∧bZ n<2*2^m-1)) m hm n h).resolve_left hr
theorem EI{u:Nat}(hu:u<63)(h0:lv u≠0)(hh:hf u≤u):fX (u:Int)=some (((u-hf u:Nat):Int),((u+hf u:Nat):Int)):=by
  unfold fX;rw[eH hu,if_neg h0];simp only[hf] at hh⊢;simp only[Option.some.injEq,Prod.mk.injEq];omega
theorem iB{leaf l:Nat}(hl:Fit l)(h:leaf<l){i:Nat}(hi:i<(aA leaf l).length):nodeAt leaf l i<2*l-1∧nodeAt leaf l i≠l-1∧oG (nodeAt leaf l i)=(aA leaf l).getD i 0:=by
  obtain⟨m,hm,rfl⟩:=hl.pow;exact(by decide+kernel:∀m≤5,∀leaf<2^m,∀i<(aA leaf (2^m)).length,nodeAt leaf (2^m) i<2*2^m-1∧nodeAt leaf (2^m) i≠2^m-1∧oG (nodeAt leaf (2^m) i)=(aA leaf (2^m)).getD i 0) m hm leaf h i hi
def cJ(leaf l:Nat):List Nat:=(List.range (aA leaf l).length).map fun i=>bZ (nodeAt leaf l i)
end Go.AM
namespace Go.Proofs.YtbiefppedlodiaaGreatDoor
open Go Go.AM Go.Proofs Tryz
variable{Γ:Nat→List AV}
theorem CF(n l:Nat)(hl:Fit l)(hn:n<2*l-1)(s:AS):aj prog Γ 116 [.v (.int .i64 ((n:Nat):Int)),.v (.int .i64 l)] s
  (fun r s'=>r=aF (aV (kD n l)) .any∧s'=s):=by
 refine aa func116 rfl ntmps116 results116 (by simp) ?_;have Gg:=hl.le;have wx:=(EH hl hn).1;have J8:0<(kD n l).length:=(by simp[kD]);have iH:=fun(i:Nat)(h:i<(kD n l).length)=>GJ hl hn h;have mh:kZ n l 0=(0,2*l-2):=rfl;have gC:∀j,kZ n l (j+1)=(if n<((kZ n l j).1+(kZ n l j).2)/2 then((kZ n l j).1,((kZ n l j).1+(kZ n l j).2)/2-1) else(((kZ n l j).1+(kZ n l j).2)/2+1,(kZ n l j).2)):=fun j=>rfl;generalize kD n l=P at *
 generalize kZ n l=S at *
 refine jA ?_;refine jA ?_;have e0:di .i64 (gO .i64 2 (l:Int)) 2=((2*l-2:Nat):Int):=(by rw[bE l (by omega),bR (by omega)];omega);refine jB @e0 ?_;refine ah ?_;refine aD (fun E s2=>∃(i:Nat)(x:AV),i<P.length∧E 6=.v (.int .i64 ((S i).1:Nat))∧E 7=.v (.int .i64 ((S i).2:Nat))∧E 0=.v (.int .i64 ((n:Nat):Int))∧E 5=x∧cP 1 s s2 x i ((aV (P.take i)).map aI)∧s.le s2)
  (fun E _=>P.length+1-lO (E 5)) ?_ ?_
 ·refine⟨0,_,J8,?_,?_,rfl,rfl,cP.nil _ _ _,AS.le.refl _⟩
  ·rw[mh];simp only[aH,Nc,↓reduceIte];rfl
  ·rw[mh];simp only[aH,Nc,↓reduceIte]
 ·rintro E1 s2 ⟨i,x,hi,g6,g7,g0,g5,hx,hle⟩ -
  refine ah ?_;obtain⟨w1,w2,w3⟩:=iH i hi;obtain⟨oX,Lc⟩:∃m,m=((S i).1+(S i).2)/2:=⟨_,rfl⟩;have rL:=gC i;rw[←Lc] at w1 w2 rL;have e1:kK .i64 (ec .i64 (((S i).1:Nat):Int) (((S i).2:Nat):Int)) 2=(oX:Int):=by
   rw[eL (by omega),show(((S i).1:Nat):Int)+(((S i).2:Nat):Int)=(((S i).1+(S i).2:Nat):Int) by omega,dv _ (by omega),Lc]
  refine jB (Ai @g6 (Ai @g7 @e1)) ?_;have dM:aV (P.take (i+1))=aV (P.take i)++[(oX:Int)]:=by
   unfold aV;rw[List.take_succ_eq_append_getElem hi,List.map_append];rw[List.getElem?_eq_getElem hi] at w1;rw[Option.some.inj w1];rfl
  refine wK fun K3 br=>?_;have bG:∀(E:Env)(s3:AS)(x3:AV),E 0=.v (.int .i64 ((n:Nat):Int))→E 6=.v (.int .i64 ((S i).1:Nat))→E 7=.v (.int .i64 ((S i).2:Nat))→E 8=.v (.int .i64 oX)→E 5=x3→cP 1 s s3 x3 (i+1) ((aV (P.take (i+1))).map aI)→s.le s3→K3 E s3:=by
   intro E s3 x3 f0 f6 f7 f8 f5 fx yh;refine br _ _ ?_;clear br K3;refine wK fun K4 eb=>?_;by_cases he:n=oX
   ·have Nx:=w2.2 he;refine jB (Ai @f0 @f8) ?_;refine wC fun X Y hX hY=>?_;refine jP (Ai @DB (lN (show((n:Nat):Int)=(oX:Int) by omega))) ?_;refine hX ?_;clear hX hY X Y;rw[Nx,List.take_of_length_le (Nat.le_refl _)] at fx;have hw:=fx.aB;refine jB @f5 ?_;refine jI ?_;refine⟨_,_,?_,yh,rfl,rfl⟩;have Bg:=bz P;unfold aF;rw[Bg];exact hw
   ·have Nx:i+1<P.length:=by
     have:=mt w2.1 he;omega
    refine jB (Ai @f0 @f8) ?_;refine wC fun X Y hX hY=>?_;refine jP (Ai @DB (jv (show ¬((n:Nat):Int)=(oX:Int) by omega))) ?_;refine hY ?_;clear hX hY X Y;refine ab ?_;refine eb _ _ ?_;clear eb K4;have m1:lO (E1 5)=i:=by
     rw[g5];rcases hx with⟨rfl,rfl,_⟩|⟨t,e,rfl,_⟩<;>rfl
    have m2:lO (E 5)=i+1:=by
     rw[f5];rcases fx with⟨rfl,h,_⟩|⟨t,e,rfl,_⟩
     ·omega
     ·rfl
    by_cases bJ:n<oX
    ·rw[if_pos bJ] at rL;have e2:di .i64 (oX:Int) 1=((oX-1:Nat):Int):=(by rw[bR (by omega)];omega);refine jB (Ai @f0 @f8) ?_;refine wC fun X Y hX hY=>?_;refine jP (Ai @DB (Ai (eq_true (show((n:Nat):Int)<(oX:Int) by omega)) @not_true_eq_false)) ?_;refine hX ?_;clear hX hY X Y;refine jD (Ai @f8 @e2) ?_;refine⟨⟨i+1,x3,Nx,?_,?_,f0,f5,fx,yh⟩,?_⟩
     ·rw[rL];simp only[aH,f6,Nc,↓reduceIte]
     ·rw[rL];simp only[aH,Nc,↓reduceIte]
     ·simp only[aH,Nc,↓reduceIte,m1,m2];omega
    ·rw[if_neg bJ] at rL;refine jB (Ai @f0 @f8) ?_;refine wC fun X Y hX hY=>?_;refine jP (Ai @DB (Ai (eq_false (show ¬((n:Nat):Int)<(oX:Int) by omega)) @not_false_eq_true)) ?_;refine hY ?_;clear hX hY X Y;refine jD (Ai @f8 (dZ oX (by omega))) ?_;refine⟨⟨i+1,x3,Nx,?_,?_,f0,f5,fx,yh⟩,?_⟩
     ·rw[rL];simp only[aH,Nc,↓reduceIte]
     ·rw[rL];simp only[aH,f7,Nc,↓reduceIte]
     ·simp only[aH,Nc,↓reduceIte,m1,m2];omega
  clear br;rcases hx with⟨rfl,fg,rK⟩|⟨t,e,rfl,ht,iJ⟩
  ·refine wE fun K hK=>?_;simp only[↓DN,Qa,Qb,Qc,Qd,Qe,Qf,Qg,Qh,reduceCtorEq,↓reduceIte,Na,Nb,Nc,Nk,Nf,Ng,Nh,Za,Zb,Zc,TT,g5,bL,List.replicate_succ];intro t ht;refine hK _ _ (bG _ _ (.sl 1 1 [.v (.int .i64 (oX:Int))] (.own t 0)) g0 g6 g7 rfl rfl ?_ ?_)
   ·refine .inr ⟨t,0,?_,by simp[AS.bw],aZ hle ht⟩;rw[dM,List.map_append,rK];subst fg;rfl
   ·exact AS.bj hle (aZ hle ht) 0
  ·refine wE fun K hK=>?_;simp only[↓DN,Qa,Qb,Qc,Qd,Qe,Qf,Qg,Qh,reduceCtorEq,↓reduceIte,Na,Nb,Nc,Nk,Nf,Ng,Nh,Za,Zb,Zc,TT,g5,ht,List.replicate_succ];have Bg:(aV (P.take i)).length=i:=(by rw[bz,List.length_take];omega);refine⟨by omega,by omega,hK _ _ (bG _ _ (.sl 1 (i+1) ((aV (P.take i)).map aI++[.v (.int .i64 (oX:Int))]) (.own t (e+1))) g0 g6 g7 rfl rfl ?_ ?_)⟩
   ·exact .inr ⟨t,e+1,by rw[dM,List.map_append];rfl,by simp[AS.bw],iJ⟩
   ·exact AS.bj hle iJ (e+1)
theorem uU(n l:Nat)(hl:Fit l)(hn:n<2*l-1)(hr:n≠l-1)(s:AS):aj prog Γ 127 [.v (.int .i64 n),.v (.int .i64 l)] s
  (fun r s'=>r=.eo [.v (.int .i64 ((oG n:Nat):Int)),.v (.bool true)]∧s'=s):=by
 refine aa func127 rfl ntmps127 results127 (by simp) ?_;have Gg:=hl.le;have hf:decide (rI (l:Int))=true:=decide_eq_true (nj.2 hl);have h1:decide ((n:Int)<0)=false:=decide_eq_false (by omega);have e2:di .i64 (gO .i64 2 (l:Int)) 2=((2*l-2:Nat):Int):=(by rw[bE l (by omega),bR (by omega)];omega);have h2:decide (((2*l-2:Nat):Int)<(n:Int))=false:=decide_eq_false (by omega);have e3:di .i64 (l:Int) 1=((l-1:Nat):Int):=(by rw[bR (by omega)];omega);have h3:((n:Int)==((l-1:Nat):Int))=false:=(by simp;omega);obtain⟨HC,hw2⟩:=EH hl hn;obtain⟨Qy,hw4⟩:=hw2 hr;have Su:=fun s=>CF (Γ:=Γ) n l hl hn s;have HM:(aV (kD n l)).length=(kD n l).length:=bz _;have hWg:(aV (kD n l))[(kD n l).length-2]? =some ((oG n:Nat):Int):=by
  unfold aV;rw[List.getElem?_map,hw4];rfl
 generalize aV (kD n l)=W at *
 generalize (kD n l).length=k at *
 refine jA ?_;refine wK fun K hK=>?_;refine jQ fun K hK=>?_;refine ad (oH l _) ?_;rintro r s1 ⟨rfl,rfl⟩;rw[hf];refine jV (Ai @h1 (Ai @e2 (Ai @h2 (Ai @e3 @h3)))) hK ?_;clear hK K;refine jF ?_;refine ab ?_;refine hK _ _ ?_;clear hK K;refine jK (Su _) ?_;rintro s2 rfl;have e4:di .i64 (W.length:Int) 2=((k-2:Nat):Int):=(by rw[bR (by omega)];omega);have bJ:(((k-2:Nat):Int)<(W.length:Int)):=(by omega);have h0:(0:Int)≤((k-2:Nat):Int):=(by omega);have fb:(List.take 1 (List.drop (k-2) (W.map aI)))[0]? =some (aI ((oG n:Nat):Int)):=by
  simp[List.getElem?_take,hWg]
 refine jB (Ai @aF.eq_1 (Ai @e4 (Ai @bJ (Ai @h0 @fb)))) ?_;exact jJ
theorem tH(n l:Nat)(hl:Fit l)(hn:n<2*l-1)(hr:n≠l-1)(s:AS):aj prog Γ 69 [.v (.int .i64 n),.v (.int .i64 l)] s
  (fun r s'=>r=.eo [.v (.int .i64 ((bZ n:Nat):Int)),.v (.bool true)]∧s'=s):=by
 refine aa func69 rfl ntmps69 results69 (by simp) ?_;have Gg:=hl.le;obtain⟨u1,u2,u3,u4,u5⟩:=nr hl hn hr;have zy:=fun s=>uU (Γ:=Γ) n l hl hn hr s;have I6:=fun s=>cR (Γ:=Γ) (oG n:Int) (by omega) s;rw[EI u1 u2 u3] at I6;unfold bZ;generalize oG n=u at *
 refine jA ?_;refine jK (zy _) ?_;rintro s1 rfl;refine wK fun K hK=>?_;refine jA ?_;refine jF ?_;refine ab ?_;refine hK _ _ ?_;clear hK K;refine jK (I6 _) ?_;rintro s2 rfl;refine wK fun K hK=>?_;by_cases h:n<u
 ·have h':=u4.1 h;have e:(((u-hf u:Nat):Int)==(n:Int))=true:=(by simp;omega);refine jB @e ?_;refine jE ?_;refine jA ?_;rw[if_pos h];exact jJ
 ·have h':=mt u4.2 h;have e:(((u-hf u:Nat):Int)==(n:Int))=false:=(by simp;omega);refine jB @e ?_;refine jF ?_;refine ab ?_;refine hK _ _ ?_;clear hK K;refine jA ?_;rw[if_neg h];exact jJ
theorem yI(hG:Γ 3=fu.map pn)(n l:Nat)(hl:Fit l)(hn:n<2*l-1)(hr:n≠l-1)(s:AS):aj prog Γ 105 [.v (.int .i64 n),.v (.int .i64 l)] s
  (fun r s'=>r=.eo [.v (.int .i64 ((bZ n:Nat):Int)),.v (.bool true)]∧s'=s):=by
 refine aa func105 rfl ntmps105 results105 (by simp) ?_;have Gg:=hl.le;obtain⟨u1,u2,u3,u4,u5⟩:=nr hl hn hr;have zy:=fun s=>mS (Γ:=Γ) hG n l hl hn s;rw[show rJ n l=some (oG n) from if_neg hr] at zy;simp only[Option.getD_some,Option.isSome_some] at zy;have wD:=fun s=>mR (Γ:=Γ) hG (oG n:Int) (by omega) s;have hle:=fun s=>ik (Γ:=Γ) hG (oG n:Int) (by omega) s;rw[EI u1 u2 u3] at wD hle;unfold bZ;generalize oG n=u at *
 refine jA ?_;refine jK (zy _) ?_;rintro s1 rfl;refine wK fun K hK=>?_;refine jA ?_;refine jF ?_;refine ab ?_;refine hK _ _ ?_;clear hK K;refine wK fun K hK=>?_;by_cases h:n<u
 ·refine jB (decide_eq_true (show((n:Nat):Int)<(u:Int) by omega)) ?_;refine jE ?_;refine jK (wD _) ?_;rintro s2 rfl;rw[if_pos h];exact jJ
 ·refine jB (decide_eq_false (show ¬((n:Nat):Int)<(u:Int) by omega)) ?_;refine jF ?_;refine ab ?_;refine hK _ _ ?_;clear hK K;refine jK (hle _) ?_;rintro s2 rfl;rw[if_neg h];exact jJ
theorem vV(l:List UInt8)(sp:Sp)(ha:sp.isAny=false)(s:AS)(hl:l.length≤2^45):aj prog Γ 90 [al l sp] s (fun r s'=>r=al l .any∧s'=s):=by
 refine aa func90 rfl ntmps90 results90 (by simp) ?_;unfold al;refine jA ?_;refine wK fun K hK=>?_;refine jB (Ai @ha @and_false) ?_;refine jF ?_;refine ab ?_;refine hK _ _ ?_;clear hK K;by_cases h0:l.length=0
 ·have uj:l=[]:=List.eq_nil_of_length_eq_zero h0;subst uj;refine jA ?_;refine a8 ?_;simp only[↓DN,Qa,Qb,Qc,Qd,Qe,Qf,Qg,Qh,reduceCtorEq,↓reduceIte,Na,Nb,Nc,Nk,Nf,Ng,Nh,Za,Zb,Zc,TT,cf,bt,bD,c7,et];exact⟨_,s,AV.bQ,AS.le.refl s,rfl,rfl⟩
 ·refine jS @h0 fun K hK=>?_;refine⟨by omega,by omega,fun t ht=>hK _ _ ?_⟩;clear hK K;refine a8 ?_;simp only[↓DN,Qa,Qb,Qc,Qd,Qe,Qf,Qg,Qh,reduceCtorEq,↓reduceIte,Na,Nb,Nc,Nk,Nf,Ng,Nh,Za,Zb,Zc,TT,cf,bt,bD,c7,et];exact⟨_,s,AV.bQ,AS.bj (AS.le.refl s) ht 0,rfl,rfl⟩
theorem CG(s0 s:AS)(p:Nat)(l:List UInt8)(n size:Nat)(hn:n<2^64)(hs:size≤8)(hl:l.length+8≤2^45)(h:wZ s0 s p l false):
  aj prog Γ 133 [.ptr p 0,.v (.int .u64 n),.v (.int .i64 size)] s (fun r s'=>r=.eo []∧wZ s0 s' p (l++be size n) false):=by
 refine aa func133 rfl ntmps133 results133 (by simp) ?_;refine jA ?_;refine ah ?_;refine aD (fun E s1=>∃(i:Int)(l':List UInt8),E 6=.v (.int .i64 i)∧-1≤i∧i<size∧E 0=.ptr p 0∧E 1=.v (.int .u64 n)∧wZ s0 s1 p l' false∧l'++be (i+1).toNat n=l++be size n)
  (fun E _=>match E 6 with |.v (.int _ i)=>(i+1).toNat|_=>0) ?_ ?_
 ·refine⟨size-1,l,?_,by omega,by omega,by simp[aH,bC],by simp[aH,bC],h,by congr 2;omega⟩;simp[aH,bR (show -9223372036854775808≤(size:Int)-1∧(size:Int)-1≤9223372036854775807 by omega)]
 ·rintro E1 s1 ⟨i,l',h6,Nx,fj,h0,h1,hp,Gg⟩ -
  obtain⟨x,hx,hb⟩:=hp.obj;refine wK fun K hK=>?_;by_cases hi:0≤i
  ·refine jB (Ai @h6 (Ai @h0 (Ai @h1 (Ai @hx (decide_eq_true hi))))) ?_;refine jE ?_;refine ab ?_;refine hK _ _ ?_;clear hK K;refine wK fun K hK=>?_;refine ah ?_;have hmul:gO .i64 8 i=8*i:=dI (by omega);have YD:¬(8*i<0):=(by omega);obtain⟨j,rfl⟩:=Int.eq_ofNat_of_zero_le hi;have hj:j<8:=(by omega);have dN:=N0 n j hj;have Ny:be ((j:Int)+1).toNat n=UInt8.ofNat (n/2^(8*j))::be j n:=by
    rw[show((j:Int)+1).toNat=j+1 from by omega];rfl
   have hlen:l'.length≤l.length+size:=by
    have:=congrArg List.length Gg;simp at this;omega
   have p9:di .i64 (j:Int) 1=(j:Int)-1:=bR (by omega);have bG:∀(E2:Env)(s2:AS),E2 6=.v (.int .i64 j)→E2 0=.ptr p 0→E2 1=.v (.int .u64 n)→wZ s0 s2 p (l'++[UInt8.ofNat (n/2^(8*j))]) false→K E2 s2:=by
    intro E2 s2 e6 e0 e1 FA;refine hK _ _ ?_;clear hK K;refine jD (Ai @e6 @p9) ?_;refine⟨⟨(j:Int)-1,_,rfl,by omega,by omega,e0,e1,FA,?_⟩,?_⟩
    ·rw[←Gg,Ny];simp
    ·simp only[h6,aH,↓reduceIte];omega
   clear hK;rcases hb with⟨rfl,uj⟩|⟨t,e,rfl,ht,iJ⟩
   ·subst uj;refine fq T.mixed [4,11,14] (by kernel_rfl) ?_;intro K hK;simp only[↓DM,bN,DX,Nz,↓DN,Qa,Qb,Qc,Qd,Qe,Qf,Qg,Qh,reduceCtorEq,↓reduceIte,Na,Nb,Nc,Nk,Nf,Ng,Nh,Za,Zb,Zc,TT,h6,h0,h1,hx,bL,hmul,YD,List.replicate_succ];intro t ht;refine hK _ _ (bG _ _ h6 h0 h1 ?_);rw[dN];exact hp.one ht _
   ·refine fq T.mixed [4,11,14] (by kernel_rfl) ?_;intro K hK;simp only[↓DM,bN,DX,Nz,↓DN,Qa,Qb,Qc,Qd,Qe,Qf,Qg,Qh,reduceCtorEq,↓reduceIte,Na,Nb,Nc,Nk,Nf,Ng,Nh,Za,Zb,Zc,TT,h6,h0,h1,hx,al,hmul,YD,ht,List.replicate_succ];refine⟨by omega,by omega,hK _ _ (bG _ _ h6 h0 h1 ?_)⟩;rw[dN];exact hp.more iJ [_] rfl rfl
  ·have fg:i= -1:=(by omega);subst fg;refine jB (Ai @h6 (Ai @h0 (Ai @h1 @hx))) ?_;refine jF ?_;refine aC ?_;simp only[az,ar,if_true,cf,bt,bD,et,List.toList_toArray];refine⟨_,s1,AV.aB.refl _,AS.le.refl _,rfl,?_⟩;have :l'=l++be size n:=(by simpa[be] using Gg);rw[←this];exact hp
theorem GK(s0 s:AS)(p:Nat)(l:List UInt8)(n size:Int)(hs:0≤size∧size≤8)(h:wZ s0 s p l true):
  aj prog Γ 133 [.ptr p 0,.v (.int .u64 n),.v (.int .i64 size)] s (fun r s'=>r=.eo []∧wZ s0 s' p l true):=by
 refine aa func133 rfl ntmps133 results133 (by simp) ?_;obtain⟨x,hx,hb⟩:=h.obj;have p9:di .i64 size 1=size-1:=bR (by omega);refine jB @p9 ?_;refine ah ?_;refine aD (fun E s1=>E 6=.v (.int .i64 (size-1))∧E 0=.ptr p 0∧s1=s) (fun _ _=>0) ?_ ?_
 ·exact⟨by simp[aH],by simp[aH,bC],rfl⟩
 ·rintro E1 s1 ⟨h6,h0,rfl⟩ -
  refine wK fun K hK=>?_;by_cases hi:0≤size-1
  ·refine jB (Ai @h6 (Ai @h0 (Ai @hx (decide_eq_true hi)))) ?_;refine jF ?_;refine aC ?_;simp only[az,ar,if_true,cf,bt,bD,et,List.toList_toArray];exact⟨_,s1,AV.aB.refl _,AS.le.refl _,rfl,h⟩
  ·refine jB (Ai @h6 (Ai @h0 (Ai @hx (decide_eq_false hi)))) ?_;refine jF ?_;refine aC ?_;simp only[az,ar,if_true,cf,bt,bD,et,List.toList_toArray];exact⟨_,s1,AV.aB.refl _,AS.le.refl _,rfl,h⟩
theorem yJ(s0 s:AS)(p:Nat)(st:List UInt8×Bool)(n size:Nat)(hn:n<2^64)(hs:size≤8)(hl:st.1.length+8≤2^45)(h:gb s0 s p st):
  aj prog Γ 133 [.ptr p 0,.v (.int .u64 n),.v (.int .i64 size)] s (fun r s'=>r=.eo []∧gb s0 s' p (ed size n st)):=by
 obtain⟨l,b⟩:=st;cases b
 ·exact CG s0 s p l n size hn hs hl h
 ·exact GK s0 s p l n size (by omega) h
theorem qw(s:AS):aj prog Γ 31 [] s (fun r s'=>∃p,r=.ptr p 0∧gb s s' p ([],false)):=by
 refine aa func31 rfl ntmps31 results31 (by simp) ?_;refine jA ?_;refine wS fun K hK=>?_;simp only[↓DN,Qa,Qb,Qc,Qd,Qe,Qf,Qg,Qh,reduceCtorEq,↓reduceIte,Na,Nb,Nc,Nk,Nf,Ng,Nh,Za,Zb,Zc,TT,Array.toList_empty];intro p hp;refine hK _ _ ?_;refine a8 ?_;simp only[↓DN,Qa,Qb,Qc,Qd,Qe,Qf,Qg,Qh,reduceCtorEq,↓reduceIte,Na,Nb,Nc,Nk,Nf,Ng,Nh,Za,Zb,Zc,TT,cf,bt,bD,c7,et];exact⟨_,_,AV.aB.refl _,AS.le.refl _,p,rfl,AS.aE (AS.le.refl s) hp _,hp,_,AS.ae _ _ _,.inl ⟨rfl,rfl⟩⟩
theorem ke(s0 s:AS)(p:Nat)(st:List UInt8×Bool)(n:Int)(size:Nat)(hn: -9223372036854775808≤n∧n≤9223372036854775807)(hs:size≤8)(hl:st.1.length+8≤2^45)(h:gb s0 s p st):
  aj prog Γ 135 [.ptr p 0,.v (.int .i64 n),.v (.int .i64 size)] s (fun r s'=>r=.eo []∧gb s0 s' p (bm size n st)):=by
 refine aa func135 rfl ntmps135 results135 (by simp) ?_;obtain⟨x,hx,hb⟩:=h.obj;refine wK fun K hK=>?_;have hmul:gO .i64 8 (size:Int)=8*size:=dI (by omega);have YD:¬(8*(size:Int)<0):=(by omega);by_cases h0:n<0
 ·refine jB (decide_eq_true h0) ?_;refine jE ?_;refine jB @hx ?_;refine a8 ?_;simp only[az,cf,bt,bD,et,List.toList_toArray];refine jW ⟨rfl,?_⟩;have :bm size n st=(st.1,true):=(by unfold bm;rw[if_neg (by omega)]);rw[this];exact h.bad hx hb true
 ·by_cases h1:2^(8*size)≤n
  ·refine jB (Ai (decide_eq_false h0) (Ai @hmul (Ai @YD (Ai (AZ n size (by omega) (by omega)) (decide_eq_true h1))))) ?_;refine jE ?_;refine jB @hx ?_;refine a8 ?_;simp only[az,cf,bt,bD,et,List.toList_toArray];refine jW ⟨rfl,?_⟩;have :bm size n st=(st.1,true):=(by unfold bm;rw[if_neg (by omega)]);rw[this];exact h.bad hx hb true
  ·refine jB (Ai (decide_eq_false h0) (Ai @hmul (Ai @YD (Ai (AZ n size (by omega) (by omega)) (decide_eq_false h1))))) ?_;refine jF ?_;refine ab ?_;refine hK _ _ ?_;clear hK K;obtain⟨m,rfl⟩:=Int.eq_ofNat_of_zero_le (Int.not_lt.1 h0);have YE:cG .u64 (m:Int)=m:=eV m (by omega);refine jU @YE fun K hK=>?_;refine ad (yJ s0 s p st m size (by omega) hs hl h) ?_;rintro r s' ⟨rfl,hp⟩;refine jR hK ?_;clear hK K;simp only[cf,bt,bD,et,List.toList_toArray];refine jW ⟨rfl,?_⟩;have :bm size m st=ed size m st:=(by unfold bm;rw[if_pos (by omega)];rfl);rw[this];exact hp
theorem fB(s0 s:AS)(p:Nat)(st:List UInt8×Bool)(n:Int)(hn: -9223372036854775808≤n∧n≤9223372036854775807)(hl:st.1.length+8≤2^45)(h:gb s0 s p st):
  aj prog Γ 88 [.ptr p 0,.v (.int .i64 n)] s (fun r s'=>r=.eo []∧gb s0 s' p (bm 1 n st)):=by
 refine aa func88 rfl ntmps88 results88 (by simp) ?_;refine jT fun K hK=>?_;refine ad (ke s0 s p st n 1 hn (by omega) hl h) ?_;rintro r s' ⟨rfl,hp⟩;refine jR hK ?_;clear hK K;simp only[cf,bt,bD,c7,List.toList_toArray,↓bf];try simp only[UP,DF,Nc,↓reduceIte,DT]
 exact jW ⟨rfl,hp⟩
theorem CH(s0 s:AS)(p:Nat)(st:List UInt8×Bool)(n:Int)(hn: -9223372036854775808≤n∧n≤9223372036854775807)(hl:st.1.length+8≤2^45)(h:gb s0 s p st):
  aj prog Γ 145 [.ptr p 0,.v (.int .i64 n)] s (fun r s'=>r=.eo []∧gb s0 s' p (bm 2 n st)):=by
 refine aa func145 rfl ntmps145 results145 (by simp) ?_;refine jT fun K hK=>?_;refine ad (ke s0 s p st n 2 hn (by omega) hl h) ?_;rintro r s' ⟨rfl,hp⟩;refine jR hK ?_;clear hK K;simp only[cf,bt,bD,c7,List.toList_toArray,↓bf];try simp only[UP,DF,Nc,↓reduceIte,DT]
 exact jW ⟨rfl,hp⟩
theorem tI(s0 s:AS)(p:Nat)(st:List UInt8×Bool)(n:Int)(hn: -9223372036854775808≤n∧n≤9223372036854775807)(hl:st.1.length+8≤2^45)(h:gb s0 s p st):
  aj prog Γ 219 [.ptr p 0,.v (.int .i64 n)] s (fun r s'=>r=.eo []∧gb s0 s' p (bm 4 n st)):=by
 refine aa func219 rfl ntmps219 results219 (by simp) ?_;refine jT fun K hK=>?_;refine ad (ke s0 s p st n 4 hn (by omega) hl h) ?_;rintro r s' ⟨rfl,hp⟩;refine jR hK ?_;clear hK K;simp only[cf,bt,bD,c7,List.toList_toArray,↓bf];try simp only[UP,DF,Nc,↓reduceIte,DT]
 exact jW ⟨rfl,hp⟩
theorem la(s0 s:AS)(p:Nat)(st:List UInt8×Bool)(n:Nat)(hn:n<2^64)(hl:st.1.length+8≤2^45)(h:gb s0 s p st):
  aj prog Γ 86 [.ptr p 0,.v (.int .u64 n)] s (fun r s'=>r=.eo []∧gb s0 s' p (ed 8 n st)):=by
 refine aa func86 rfl ntmps86 results86 (by simp) ?_;refine jT fun K hK=>?_;refine ad (yJ s0 s p st n 8 hn (by omega) hl h) ?_;rintro r s' ⟨rfl,hp⟩;refine jR hK ?_;clear hK K;simp only[cf,bt,bD,c7,List.toList_toArray,↓bf];try simp only[UP,DF,Nc,↓reduceIte,DT]
 exact jW ⟨rfl,hp⟩
theorem tJ(s0 s:AS)(p:Nat)(st:List UInt8×Bool)(b:AV)(m:List UInt8)(hb:zF b m)(hl:st.1.length+m.length≤2^45)(h:gb s0 s p st):
  aj prog Γ 175 [.ptr p 0,b] s (fun r s'=>r=.eo []∧gb s0 s' p (ee m st)):=by
 obtain⟨l,bad⟩:=st;obtain⟨x,hx,LU⟩:=h.obj;refine aa func175 rfl ntmps175 results175 (by simp) ?_;cases bad
 ·refine jB @hx ?_;refine jE ?_;have YF:ee m (l,false)=(l++m,false):=rfl;by_cases hm:m.length=0
  ·have uk:m=[]:=List.eq_nil_of_length_eq_zero hm;subst uk;have e:(l++[],false)=(l,false):=(by simp);rw[YF,e];rcases LU with⟨rfl,uj⟩|⟨t,e,rfl,ht,iJ⟩
   ·simp only at uj;subst uj;rcases hb with⟨rfl,_⟩|⟨sp,rfl⟩
    ·refine wE fun K hK=>?_;simp only[↓DN,Qa,Qb,Qc,Qd,Qe,Qf,Qg,Qh,reduceCtorEq,↓reduceIte,Na,Nb,Nc,Nk,Nf,Ng,Nh,Za,Zb,Zc,TT,hx,bL,al,hm];refine hK _ _ ?_;clear hK K;simp only[cf,bt,bD,c7,List.toList_toArray,↓bf];try simp only[UP,DF,Nc,↓reduceIte,DT]
     exact⟨_,_,AV.aB.refl _,AS.le.refl _,rfl,h.bad hx (.inl ⟨rfl,rfl⟩) false⟩
    ·refine wE fun K hK=>?_;simp only[↓DN,Qa,Qb,Qc,Qd,Qe,Qf,Qg,Qh,reduceCtorEq,↓reduceIte,Na,Nb,Nc,Nk,Nf,Ng,Nh,Za,Zb,Zc,TT,hx,bL,al,hm];refine hK _ _ ?_;clear hK K;simp only[cf,bt,bD,c7,List.toList_toArray,↓bf];try simp only[UP,DF,Nc,↓reduceIte,DT]
     exact⟨_,_,AV.aB.refl _,AS.le.refl _,rfl,h.bad hx (.inl ⟨rfl,rfl⟩) false⟩
   ·rcases hb with⟨rfl,_⟩|⟨sp,rfl⟩
    ·refine wE fun K hK=>?_;simp only[↓DN,Qa,Qb,Qc,Qd,Qe,Qf,Qg,Qh,reduceCtorEq,↓reduceIte,Na,Nb,Nc,Nk,Nf,Ng,Nh,Za,Zb,Zc,TT,hx,bL,al,hm];refine hK _ _ ?_;clear hK K;simp only[cf,bt,bD,c7,List.toList_toArray,↓bf];try simp only[UP,DF,Nc,↓reduceIte,DT]
     exact⟨_,_,AV.aB.refl _,AS.le.refl _,rfl,h.bad hx (.inr ⟨t,e,rfl,ht,iJ⟩) false⟩
    ·refine wE fun K hK=>?_;simp only[↓DN,Qa,Qb,Qc,Qd,Qe,Qf,Qg,Qh,reduceCtorEq,↓reduceIte,Na,Nb,Nc,Nk,Nf,Ng,Nh,Za,Zb,Zc,TT,hx,bL,al,hm];refine hK _ _ ?_;clear hK K;simp only[cf,bt,bD,c7,List.toList_toArray,↓bf];try simp only[UP,DF,Nc,↓reduceIte,DT]
     exact⟨_,_,AV.aB.refl _,AS.le.refl _,rfl,h.bad hx (.inr ⟨t,e,rfl,ht,iJ⟩) false⟩
  ·have Km:∃sp,b=al m sp:=by
    rcases hb with⟨_,rfl⟩|hb
    ·exact absurd rfl hm
    ·exact hb
   obtain⟨sp,rfl⟩:=Km;rw[YF];simp only at hl;rcases LU with⟨rfl,uj⟩|⟨t,e,rfl,ht,iJ⟩
   ·simp only at uj;subst uj;refine wE fun K hK=>?_;simp only[↓DN,Qa,Qb,Qc,Qd,Qe,Qf,Qg,Qh,reduceCtorEq,↓reduceIte,Na,Nb,Nc,Nk,Nf,Ng,Nh,Za,Zb,Zc,TT,hx,bL,al,hm];refine⟨by omega,by omega,fun t ht=>hK _ _ ?_⟩;clear hK K;simp only[cf,bt,bD,c7,List.toList_toArray,↓bf];try simp only[UP,DF,Nc,↓reduceIte,DT]
    exact jW ⟨rfl,h.N2 ht m⟩
   ·refine jU (Ai @hx (Ai @al.eq_1 (Ai @hm @ht))) fun K hK=>?_;refine⟨by omega,by omega,hK _ _ ?_⟩;clear hK K;simp only[cf,bt,bD,c7,List.toList_toArray,↓bf];try simp only[UP,DF,Nc,↓reduceIte,DT]
    exact jW ⟨rfl,h.more iJ m rfl rfl⟩
 ·refine jB @hx ?_;refine jF ?_;refine ab ?_;simp only[cf,bt,bD,c7,List.toList_toArray,↓bf];try simp only[UP,DF,Nc,↓reduceIte,DT]
  exact jW ⟨rfl,h⟩
theorem re(s0 s:AS)(p:Nat)(st:List UInt8×Bool)(b:AV)(m:List UInt8)(k:Nat)(hk:k≤8)(hb:zF b m)(hl:st.1.length+m.length+8≤2^45)(h:gb s0 s p st):
  aj prog Γ 134 [.ptr p 0,b,.v (.int .i64 k)] s (fun r s'=>r=.eo []∧gb s0 s' p (dx k m st)):=by
 refine aa func134 rfl ntmps134 results134 (by simp) ?_;have hlen:(bm k m.length st).1.length≤st.1.length+k:=eE ..;rcases hb with⟨rfl,rfl⟩|⟨sp,rfl⟩
 ·refine wS fun K hK=>?_;simp only[↓DN,Qa,Qb,Qc,Qd,Qe,Qf,Qg,Qh,reduceCtorEq,↓reduceIte,Na,Nb,Nc,Nk,Nf,Ng,Nh,Za,Zb,Zc,TT,bL,List.length_nil];refine ad (ke s0 s p st 0 k (by omega) hk (by omega) h) ?_;rintro r s' ⟨rfl,hp⟩;refine jR hK ?_;clear hK K;refine jT fun K hK=>?_;refine ad (tJ s0 s' p _ bL [] zF.nil (by have:=eE k 0 st;simp at this hl⊢;omega) hp) ?_;rintro r iI ⟨rfl,Qu⟩;refine jR hK ?_;clear hK K;simp only[cf,bt,bD,c7,List.toList_toArray,↓bf];try simp only[UP,DF,Nc,↓reduceIte,DT]
  exact jW ⟨rfl,Qu⟩
 ·refine jS @al.eq_1 fun K hK=>?_;refine ad (ke s0 s p st m.length k (by omega) hk (by omega) h) ?_;rintro r s' ⟨rfl,hp⟩;refine jR hK ?_;clear hK K;refine jT fun K hK=>?_;refine ad (tJ s0 s' p _ (al m sp) m (zF.mk m sp) (by simp only[List.length_nil] at *;omega) hp) ?_;rintro r iI ⟨rfl,Qu⟩;refine jR hK ?_;clear hK K;simp only[cf,bt,bD,c7,List.toList_toArray,↓bf];try simp only[UP,DF,Nc,↓reduceIte,DT]
  exact jW ⟨rfl,Qu⟩
theorem fC(s0 s:AS)(p:Nat)(st:List UInt8×Bool)(b:AV)(m:List UInt8)(hb:zF b m)(hl:st.1.length+m.length+8≤2^45)(h:gb s0 s p st):
  aj prog Γ 87 [.ptr p 0,b] s (fun r s'=>r=.eo []∧gb s0 s' p (dx 1 m st)):=by
 refine aa func87 rfl ntmps87 results87 (by simp) ?_;refine jT fun K hK=>?_;refine ad (re s0 s p st b m 1 (by omega) hb hl h) ?_;rintro r s' ⟨rfl,hp⟩;refine jR hK ?_;clear hK K;simp only[cf,bt,bD,c7,List.toList_toArray,↓bf];try simp only[UP,DF,Nc,↓reduceIte,DT]
 exact jW ⟨rfl,hp⟩
theorem Ae(s0 s:AS)(p:Nat)(st:List UInt8×Bool)(b:AV)(m:List UInt8)(hb:zF b m)(hl:st.1.length+m.length+8≤2^45)(h:gb s0 s p st):
  aj prog Γ 136 [.ptr p 0,b] s (fun r s'=>r=.eo []∧gb s0 s' p (dx 2 m st)):=by
 refine aa func136 rfl ntmps136 results136 (by simp) ?_;refine jT fun K hK=>?_;refine ad (re s0 s p st b m 2 (by omega) hb hl h) ?_;rintro r s' ⟨rfl,hp⟩;refine jR hK ?_;clear hK K;simp only[cf,bt,bD,c7,List.toList_toArray,↓bf];try simp only[UP,DF,Nc,↓reduceIte,DT]
 exact jW ⟨rfl,hp⟩
theorem Bq(s:AS):aj prog Γ 90 [bL] s (fun r s'=>r=al [] .any∧s'=s):=by
 refine aa func90 rfl ntmps90 results90 (by simp) ?_;unfold bL;refine jA ?_;refine wK fun K hK=>?_;refine jA ?_;refine jE ?_;refine jA ?_;refine jI ?_;exact⟨_,_,AV.aN,AS.le.refl _,rfl,rfl⟩
theorem tK(l:List UInt8)(s:AS)(hl:l.length≤2^45):aj prog Γ 90 [al l .any] s (fun r s'=>r=al l .any∧s'=s):=
 aj.any (pre:=[]) (post:=[]) (fun e=>by subst e;exact Bq s) (vV l .no rfl s hl)
theorem iC(s0 s:AS)(p:Nat)(st:List UInt8×Bool)(hl:st.1.length≤2^45)(h:gb s0 s p st):
  aj prog Γ 33 [.ptr p 0] s (fun r s'=>r=.eo [al (if st.2=true then[] else st.1) .any,.v (.bool !st.2)]∧s'=s):=by
 obtain⟨l,bad⟩:=st;obtain⟨x,hx,LU⟩:=h.obj;refine aa func33 rfl ntmps33 results33 (by simp) ?_;simp only at hx hl LU;refine jA ?_;refine wK fun K hK=>?_;cases bad
 ·refine jB @hx ?_;refine jF ?_;refine ab ?_;refine hK _ _ ?_;clear hK K;rcases LU with⟨rfl,uj⟩|⟨t,e,rfl,ht,iJ⟩
  ·subst uj;refine jS @hx fun K hK=>?_;refine ad (Bq s) ?_;rintro r s' ⟨rfl,rfl⟩;refine jR hK ?_;clear hK K;exact jJ
  ·refine jS @hx fun K hK=>?_;refine ad (vV l _ rfl s hl) ?_;rintro r s' ⟨rfl,rfl⟩;refine jR hK ?_;clear hK K;exact jJ
 ·refine jB @hx ?_;refine jE ?_;refine jA ?_;refine jI ?_;exact⟨_,_,AV.cB AV.aN (AV.aB.refl _),AS.le.refl _,rfl,rfl⟩
theorem rU(l:List UInt8)(s:AS)(hl:l.length≤2^45):aj prog Γ 35 [al l .any] s (fun r s'=>∃p,r=.ptr p 0∧rD s s' p (l,0)):=by
 refine aa func35 rfl ntmps35 results35 (by simp) ?_;refine jA ?_;refine jQ fun K hK=>?_;refine ad (tK l s hl) ?_;rintro r s' ⟨rfl,rfl⟩;unfold al;refine jM ?_;intro p hp;refine hK _ _ ?_;refine jI ?_;exact jW ⟨p,rfl,AS.aE (AS.le.refl _) hp _,hp,AS.ae _ _ _⟩
theorem GL(s0 s:AS)(p:Nat)(st:jr)(n:Int)(h:rD s0 s p st):
  aj prog Γ 176 [.ptr p 0,.v (.int .i64 n)] s (fun r s'=>r=al (dY n st).1 .any∧rD s0 s' p (dY n st).2):=by
 refine aa func176 rfl ntmps176 results176 (by simp) ?_;obtain⟨l,er⟩:=st;have hx:=h.obj;simp only[al] at hx;refine jA ?_;refine wK fun K hK=>?_;refine ah ?_;by_cases h0:er=0
 ·subst h0;refine jB (Ai @hx (B1 0 rfl)) ?_;refine jF ?_;by_cases h1:n<0
  ·refine jB (decide_eq_true h1) ?_;refine jE ?_;refine jB @hx ?_;refine jA ?_;refine jI ?_;rw[D2 h1];exact⟨_,_,AV.aN,AS.le.refl _,rfl,h.put⟩
  ·refine jB (decide_eq_false h1) ?_;refine jF ?_;by_cases h2:(l.length:Int)<n
   ·refine jB (Ai @hx (decide_eq_true h2)) ?_;refine jE ?_;refine jB @hx ?_;refine jA ?_;refine jI ?_;rw[zG h1 h2];exact⟨_,_,AV.aN,AS.le.refl _,rfl,h.put⟩
   ·obtain⟨m,rfl⟩:=Int.eq_ofNat_of_zero_le (Int.not_lt.1 h1);have sm:m≤l.length:=(by omega);have uk:(0:Int)≤(m:Int):=(by omega);have YG:(m:Int)≤(l.length:Int):=(by omega);refine jB (Ai @hx (decide_eq_false h2)) ?_;refine jF ?_;refine ab ?_;simp only[az,ar,if_true,if_false];refine hK _ _ ?_;clear hK K;refine jB (Ai @hx (Ai @uk (Ai @YG @Int.le_refl))) ?_;refine jB (Ai @hx (Ai @uk (Ai @YG @Int.le_refl))) ?_;refine jA ?_;refine jI ?_;rw[F3 sm];refine⟨_,_,AV.aB.refl _,AS.le.refl _,DZ ?_ rfl,h.xbd ?_⟩
    ·simp only[List.length_take];omega
    ·rw[DZ (m:=l.drop m)]
     ·simp only[List.length_drop]
     ·rw[List.take_length]
 ·refine jB (Ai @hx (D0 er h0)) ?_;refine jE ?_;refine jA ?_;refine jI ?_;rw[D1 h0];exact⟨_,_,AV.aN,AS.le.refl _,rfl,h⟩
theorem oN(s0 s:AS)(p:Nat)(st:jr)(size:Nat)(hs:size≤8)(h:rD s0 s p st):
  aj prog Γ 137 [.ptr p 0,.v (.int .i64 size)] s (fun r s'=>r=.v (.int .u64 (iU size st).1)∧rD s0 s' p (iU size st).2):=by
 refine aa func137 rfl ntmps137 results137 (by simp) ?_;obtain⟨out,bu⟩:∃out,out=(dY size st).1:=⟨_,rfl⟩;have hlen:out.length≤8:=(by rw[bu];exact Nat.le_trans (xQ _ _) hs);refine jA ?_;refine jA ?_;refine wK fun K hK=>?_;refine jQ fun K hK=>?_;refine ad (GL s0 s p st size h) ?_;rintro r s2 ⟨rfl,he⟩;rw[←bu];unfold al;refine jR hK ?_;clear hK K;refine ah ?_;refine aD (fun E s3=>∃j y:Nat,j≤out.length∧E 10=.sl 1 out.length (out.map ai) .any∧E 11=.v (.int .i64 out.length)∧E 12=.v (.int .i64 j)∧E 5=.v (.int .u64 y)∧y=hM (out.take j)∧s3=s2)
  (fun E _=>match E 12 with |.v (.int _ j)=>out.length-j.toNat|_=>0) ?_ ?_
 ·exact⟨0,0,Nat.zero_le _,rfl,rfl,rfl,rfl,rfl,rfl⟩
 ·rintro E3 s3 ⟨j,y,hj,f10,f11,f12,f5,hy,rfl⟩ -
  by_cases kJ:j<out.length
  ·have hy7:y<2^56:=by
    rw[hy];refine Nat.lt_of_lt_of_le (qM out j) ?_;rw[show(2:Nat)^56=256^7 from by decide];exact Nat.pow_le_pow_right (by decide) (by omega)
   have hy2:hM (out.take (j+1))=y*256+out[j].toNat:=(by rw[List.take_succ_eq_append_getElem kJ,xP,←hy]);have Yy:(0:Int)≤(j:Int):=(by omega);have cx:=Ki kJ;generalize Df:out[j]=c at *
   refine jB (Ai @f11 (Ai @f12 (Ai @aq (decide_eq_true kJ)))) ?_;refine wK fun K5 jZ=>?_;refine jE ?_;refine ab ?_;refine jZ _ _ ?_;clear jZ K5;refine wK fun K6 kC=>?_;refine ah ?_;refine wS fun K hK=>?_;simp only[↓DN,Qa,Qb,Qc,Qd,Qe,Qf,Qg,Qh,reduceCtorEq,↓reduceIte,Na,Nb,Nc,Nk,Nf,Ng,Nh,Za,Zb,Zc,TT,f10,f12,aq,kJ,Yy,cx,ai];refine hK _ _ ?_;clear hK K;refine jD (Ai @f5 (F2 y c hy7)) ?_;simp only[ar,az,if_true,if_false];refine kC _ _ ?_;clear kC K6;refine jD (Ai @f12 (dZ j (by omega))) ?_;refine⟨⟨j+1,y*256+c.toNat,by omega,f10,f11,rfl,rfl,hy2.symm,rfl⟩,?_⟩;simp only[f12,aH,↓reduceIte];omega
  ·refine jB (Ai @f11 (Ai @f12 (Ai @aq (decide_eq_false kJ)))) ?_;refine wK fun K5 jZ=>?_;refine jF ?_;refine aC ?_;simp only[az,ar,if_true];refine hK _ _ ?_;clear hK jZ K K5;refine jB @f5 ?_;refine jI ?_;refine⟨_,_,AV.aB.refl _,AS.le.refl _,?_,he⟩;rw[hy,List.take_of_length_le (by omega),bu];rfl
theorem Jm(k:Nat)(hk:k≤7)(st:jr):cG .i64 ((iU k st).1:Int)=((iU k st).1:Int):=by
 have:=IM k st;have h2:256^k≤256^7:=Nat.pow_le_pow_right (by decide) hk;have h3:(256:Nat)^7=72057594037927936:=(by decide);exact AU (by omega)
theorem tL(s0 s:AS)(p:Nat)(st:jr)(h:rD s0 s p st):
  aj prog Γ 217 [.ptr p 0] s (fun r s'=>r=.v (.int .i64 (iU 4 st).1)∧rD s0 s' p (iU 4 st).2):=by
 refine aa func217 rfl ntmps217 results217 (by simp) ?_;refine jA ?_;refine jQ fun K hK=>?_;refine ad (oN s0 s p st 4 (by omega) h) ?_;rintro r s' ⟨rfl,he⟩;refine jV (Jm 4 (by omega) st) hK ?_;clear hK K;refine jI ?_;exact jW ⟨rfl,he⟩
theorem CI(s0 s:AS)(p:Nat)(st:jr)(h:rD s0 s p st):
  aj prog Γ 94 [.ptr p 0] s (fun r s'=>r=.v (.int .u64 (iU 8 st).1)∧rD s0 s' p (iU 8 st).2):=by
 refine aa func94 rfl ntmps94 results94 (by simp) ?_;refine jA ?_;refine jQ fun K hK=>?_;refine ad (oN s0 s p st 8 (by omega) h) ?_;rintro r s' ⟨rfl,he⟩;refine jR hK ?_;clear hK K;refine jI ?_;exact jW ⟨rfl,he⟩
theorem n256:((256:Int)=0)=False:=by simp
theorem LV(q:Nat):cG .u8 (iG (q:Int) 256)=((UInt8.ofNat q).toNat:Int):=by
 rw[show(256:Int)=((256:Nat):Int) from rfl,lH,gE rfl];simp[IntKind.bits]
theorem O5(n i:Nat)(h:n<2^64):kK .u64 ((n/256^i:Nat):Int) 256=((n/256^(i+1):Nat):Int):=by
 have hq:n/256^i<2^IntKind.u64.bits:=Nat.lt_of_le_of_lt (Nat.div_le_self _ _) h;have:=Ke (k:=.u64) rfl (n/256^i) 256 hq;rw[show(256:Int)=((256:Nat):Int) from rfl,this,Nat.div_div_eq_div_mul,Nat.pow_succ]
theorem LW(c:UInt8):mq [AV.v (.int .u8 (c.toNat:Int))]=ByteArray.mk [c].toArray:=jm [c]
theorem O6(c:UInt8):isByte (AV.v (.int .u8 (c.toNat:Int)))=true:=rfl
theorem cT(n size:Nat)(hn:n<2^64)(hs:size≤8)(s:AS):
  aj prog Γ 91 [.v (.int .u64 n),.v (.int .i64 size)] s (fun r s'=>r=.v (.string ⟨(be size n).toArray⟩)∧s'=s):=by
 refine aa func91 rfl ntmps91 results91 (by simp) ?_;refine jA ?_;refine jA ?_;refine wK fun K hK=>?_;refine jA ?_;refine ah ?_;refine aD (fun E s1=>∃i:Nat,i≤size∧E 6=.v (.int .i64 i)∧E 1=.v (.int .i64 size)∧E 0=.v (.int .u64 (n/256^i:Nat))∧E 5=.v (.string ⟨(be i n).toArray⟩)∧s1=s)
  (fun E _=>match E 6 with |.v (.int _ i)=>size-i.toNat|_=>0) ?_ ?_
 ·exact⟨0,Nat.zero_le _,by simp[aH],by simp[aH,bC],by simp[aH,bC],by simp[aH,be],rfl⟩
 ·rintro E1 s1 ⟨i,hi,h6,h1,h0,h5,rfl⟩ -
  refine wK fun K2 aX=>?_;by_cases aY:i<size
  ·refine jB (Ai @h6 (Ai @h1 (Ai @aq (decide_eq_true aY)))) ?_;refine jE ?_;refine ab ?_;refine aX _ _ ?_;clear aX K2;refine wK fun K3 br=>?_;refine ah ?_;refine wS fun K hK=>?_;simp only[↓DN,Qa,Qb,Qc,Qd,Qe,Qf,Qg,Qh,reduceCtorEq,↓reduceIte,Na,Nb,Nc,Nk,Nf,Ng,Nh,Za,Zb,Zc,TT,h0,h5,n256,LV,LW,O6,List.replicate_succ,ej,qj,cC,bF (show 1+i<2^62 by omega)];refine hK _ _ ?_;clear hK K;refine jD (Ai @h0 (Ai @n256 (O5 n i hn))) ?_;simp only[ar,az,if_true,if_false];refine br _ _ ?_;clear br K3;refine jD (Ai @h6 (dZ i (by omega))) ?_;refine⟨⟨i+1,by omega,rfl,h1,rfl,?_,rfl⟩,?_⟩
   ·simp only[aH,Nc,↓reduceIte,be,show 2^(8*i)=256^i from by rw[Nat.pow_mul]]
   ·simp only[h6,aH,↓reduceIte];omega
  ·refine jB (Ai @h6 (Ai @h1 (Ai @aq (decide_eq_false aY)))) ?_;refine jF ?_;refine aC ?_;simp only[az,ar,if_true];refine hK _ _ ?_;clear hK aX K K2;refine jB @h5 ?_;refine jI ?_;obtain rfl:i=size:=(by omega);exact jW ⟨rfl,rfl⟩
theorem O7(n:Nat)(h:n<2^63):cG .u64 (n:Int)=n:=eV n (by omega)
theorem eZ(l:List UInt8)(size:Nat)(hl:l.length<2^61)(hs:size≤8)(s:AS):
  aj prog Γ 92 [.v (.string ⟨l.toArray⟩),.v (.int .i64 size)] s (fun r s'=>r=.v (.string ⟨(be size l.length++l).toArray⟩)∧s'=s):=by
 refine aa func92 rfl ntmps92 results92 (by simp) ?_;refine jA ?_;refine jS (Ai @ej (O7 l.length (by omega))) fun K hK=>?_;refine ad (cT l.length size (by omega) hs s) ?_;rintro r s' ⟨rfl,rfl⟩;refine jV (Ai @ej (Ai @qj (Ai @cC (bF (show size+l.length<2^62 by omega))))) hK ?_;clear hK K;exact jJ
theorem LX(y:Nat)(c:UInt8)(h:y<2^56):ec .u64 (gO .u64 (y:Int) 256) (cG .u64 (c.toNat:Int))=((y*256+c.toNat:Nat):Int):=by
 have hc:=c.toNat_lt;rw[eV _ (by omega),show(256:Int)=((256:Nat):Int) from rfl,BZ rfl,Nat.mod_eq_of_lt (by simp only[IntKind.bits];omega),uv rfl,Nat.mod_eq_of_lt (by simp only[IntKind.bits];omega)]
theorem EJ(l:List UInt8)(hl:l.length≤8)(s:AS):
  aj prog Γ 67 [.v (.string ⟨l.toArray⟩)] s (fun r s'=>r=.v (.int .u64 (hM l))∧s'=s):=by
 refine aa func67 rfl ntmps67 results67 (by simp) ?_;refine jA ?_;refine jA ?_;refine wK fun K hK=>?_;refine jA ?_;refine ah ?_;refine aD (fun E s1=>∃i x:Nat,i≤l.length∧E 0=.v (.string ⟨l.toArray⟩)∧E 4=.v (.int .i64 i)∧E 3=.v (.int .u64 x)∧x=hM (l.take i)∧s1=s)
  (fun E _=>match E 4 with |.v (.int _ i)=>l.length-i.toNat|_=>0) ?_ ?_
 ·exact⟨0,0,Nat.zero_le _,by simp[aH,bC],by simp[aH],by simp[aH],by simp[hM],rfl⟩
 ·rintro E1 s1 ⟨i,x,hi,h0,h4,h3,hx,rfl⟩ -
  refine wK fun K2 aX=>?_;by_cases aY:i<l.length
  ·have T3:hM (l.take (i+1))=x*256+l[i].toNat:=(by rw[List.take_succ_eq_append_getElem aY,xP,←hx]);have hx7:x<2^56:=by
    rw[hx];refine Nat.lt_of_lt_of_le (qM l i) ?_;rw[show(2:Nat)^56=256^7 from by decide];exact Nat.pow_le_pow_right (by decide) (by omega)
   have X5:(0:Int)≤(i:Int):=(by omega);have fb:=RS l i aY;generalize Df:l[i]=c at *
   refine jB (Ai @h0 (Ai @h4 (Ai @ej (Ai @aq (decide_eq_true aY))))) ?_;refine jE ?_;refine ab ?_;refine aX _ _ ?_;clear aX K2;refine wK fun K3 br=>?_;refine ah ?_;refine wE fun K hK=>?_;simp only[↓DN,Qa,Qb,Qc,Qd,Qe,Qf,Qg,Qh,reduceCtorEq,↓reduceIte,Na,Nb,Nc,Nk,Nf,Ng,Nh,Za,Zb,Zc,TT,h0,h4,h3,X5,fb,ai,LX x c hx7];refine hK _ _ ?_;clear hK K;simp only[ar,az,if_true,if_false];refine br _ _ ?_;clear br K3;refine jD (Ai @h4 (dZ i (by omega))) ?_;refine⟨⟨i+1,_,by omega,h0,rfl,rfl,T3.symm,rfl⟩,?_⟩;simp only[h4,aH,↓reduceIte];omega
  ·refine jB (Ai @h0 (Ai @h4 (Ai @ej (Ai @aq (decide_eq_false aY))))) ?_;refine jF ?_;refine aC ?_;simp only[az,ar,if_true];refine hK _ _ ?_;clear hK aX K K2;refine jB @h3 ?_;refine jI ?_;refine jW ⟨?_,rfl⟩;rw[hx,List.take_of_length_le (by omega)]
end Go.Proofs.YtbiefppedlodiaaGreatDoor
