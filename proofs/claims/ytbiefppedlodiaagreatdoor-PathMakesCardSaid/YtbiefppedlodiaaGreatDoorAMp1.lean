/- An abstract machine for the model and the rules of its walk, each proved sound over the model; no condition. -/
import Derived.Orders
import Derived.Below
import Derived.Laws.Entries
import Derived.ChangeKeysEq
import Derived.Laws.StructEq
import Derived.Laws.Append
import Derived.Laws.BytesArg
import Derived.Laws.NewFold
import Derived.Laws.Build
open Array renaming ext' -> cF, getElem?_eq_none -> b8, getElem?_modify -> cr, getElem?_push_size -> dK
open BitVec renaming ofInt -> cY
open Bool renaming and_eq_true -> aw, eq_iff_iff -> bX, false_eq_true -> ar
open Go.Builtin renaming len_ -> dI
open Go.Instr renaming indexAt -> dO, slice -> da, sliceAt -> dE, sliceBounds -> dN, sureAddr -> dq
open Go.IntKind renaming i64 -> c9
open Go.Op renaming equalIn -> dL
open Go.Question renaming appendCap -> cv
open Go.Result renaming andThen_ok -> aM
open Go.Sem renaming run_bind -> bo, run_pure -> bE
open Go.Value renaming cells -> dg, int -> dw
open Go.World renaming freeze -> dC
open Int renaming le_refl -> bB
open List renaming drop_eq_nil_of_le -> cS, getD -> bm, getElem?_eq_none -> a8, getElem?_take -> aF, length_take -> aV, map_cons -> aG, range -> aq, replicate -> ae
open Nat renaming add_assoc -> cK, le_refl -> ax, lt_irrefl -> cy, lt_or_ge -> ch, mul_le_mul_right -> b9
open Option renaming bind_eq_some_iff -> bU, map_eq_some_iff -> cZ, map_some -> cl
open Option.some renaming injEq -> aU
open UInt8 renaming ofNat -> az
set_option linter.unusedSimpArgs false
set_option linter.unusedVariables false
namespace Go.AM
theorem oM{p:Prop}(h:p:=by omega):p:=h
theorem dM{p:Prop}(h:p:=by decide):p:=h
theorem kM{p:Prop}(h:p:=by kernel_rfl):p:=h
theorem sM{p:Prop}(h:p:=by simp):p:=h
theorem dT:∀{p:Prop}[_i:Decidable p],p->decide p=true:=decide_eq_true
theorem dF:∀{p:Prop}[_i:Decidable p],¬p->decide p=false:=decide_eq_false
open Go Go.RowKit
inductive Sp where
  |new
  |no
  |full
  |own (t e:Nat)
  |any
def Sp.isAny:Sp->Bool
  |.any=>true
  |.new=>false
  |.no=>false
  |.full=>false
  |.own _ _=>false
inductive AV where
  |v (x:Value)
  |sl (sz n:Nat) (cs:List AV) (sp:Sp)
  |ij (cs:List AV)
  |ptr (o off:Nat)
  |jd (o off sz n cap:Nat)
  |agg (cs:List AV)
  |ka (cs:List AV)
  |wm (f:FuncId) (gh:List AV)
structure Gh where
  ro:Nat->Nat->Option Value
  obj:Nat->Option Nat
  tok:Nat->Nat->Option (Nat×Nat×Nat)
  no:Nat
  nt:Nat
  B:Nat
  w0:World
  df:List Deferred
structure Gh.le(G G':Gh):Prop where
  ro:∀b j u,G.ro b j=some u->G'.ro b j=some u
  obj:∀o b,G.obj o=some b->G'.obj o=some b
  tok:∀t e r,G.tok t e=some r->G'.tok t e=some r
  B:G'.B=G.B
  w0:G'.w0=G.w0
  df:G'.df=G.df
theorem Gh.le.refl(G:Gh):G.le G:=⟨fun _ _ _ h=>h,fun _ _ h=>h,fun _ _ _ h=>h,rfl,rfl,rfl⟩
theorem Gh.le.trans{a b c:Gh}(h:a.le b)(k:b.le c):a.le c:=
  ⟨fun _ _ _ x=>k.ro _ _ _ (h.ro _ _ _ x),fun _ _ x=>k.obj _ _ (h.obj _ _ x),fun _ _ _ x=>k.tok _ _ _ (h.tok _ _ _ x),k.B.trans h.B,k.w0.trans h.w0,k.df.trans h.df⟩
def mT(G:Gh)(b off:Nat)(vs:List Value):Prop:=∀j u,vs[j]? =some u->G.ro b (off+j)=some u
def ke(G:Gh)(b off sz n cap:Nat):Sp->Prop
  |.no=>True
  |.any=>True
  |.full=>cap=n
  |.new=>cap=n∧G.B<=b
  |.own t e=>G.tok t e=some (b,off+n*sz,off+cap*sz)
mutual
def dQ(G:Gh):AV->Value->Prop
  |.v x,y=>y=x
  |.sl sz n cs sp,y=>(∃b off cap vs,y=.slice (some ⟨b,off,none⟩) n cap∧cs.length=n*sz∧n<=cap∧dP G cs vs∧mT G b off vs∧ke G b off sz n cap sp)∨
      (n=0∧cs=[]∧∃a cap,y=.slice (some a) 0 cap∧(sp=.no∨sp=.any∨(sp=.full∧cap=0)))∨
      (n=0∧cs=[]∧sp=.any∧y=.slice none 0 0)
  |.ij cs,y=>∃b off vs,y=.pointer (some ⟨b,off,none⟩)∧dP G cs vs∧mT G b off vs
  |.ptr o off,y=>∃b,G.obj o=some b∧y=.pointer (some ⟨b,off,none⟩)
  |.jd o off _ n cap,y=>∃b,G.obj o=some b∧y=.slice (some ⟨b,off,none⟩) n cap∧n<=cap
  |.agg cs,y=>∃vs:List Value,y=.agg vs.toArray∧dP G cs vs
  |.ka cs,y=>∃vs:List Value,y=.tuple vs.toArray∧dP G cs vs
  |.wm f gh,y=>∃vs:List Value,y=.func (.func f) #[] vs.toArray∧dP G gh vs
def dP(G:Gh):List AV->List Value->Prop
  |[],vs=>vs=[]
  |c::cs,vs=>∃u us,vs=u::us∧dQ G c u∧dP G cs us
end
theorem mT.mono{G G':Gh}(h:G.le G'){b off:Nat}{vs:List Value}(k:mT G b off vs):mT G' b off vs:=
  fun j u hj=>h.ro _ _ _ (k j u hj)
theorem ke.mono{G G':Gh}(h:G.le G'){b off sz n cap:Nat}{sp:Sp}(k:ke G b off sz n cap sp):ke G' b off sz n cap sp:=by
  cases sp with
  |no=>trivial
  |any=>trivial
  |full=>exact k
  |new=>exact⟨k.1,by rw[h.B];exact k.2⟩
  |own t e=>exact h.tok _ _ _ k
mutual
theorem dQ.mono{G G':Gh}(h:G.le G'):∀(c:AV)(u:Value),dQ G c u->dQ G' c u
  |.v x,u,k=>by simpa[dQ] using k
  |.sl sz n cs sp,u,k=>by
    simp only[dQ] at k⊢;rcases k with⟨b,off,cap,vs,h1,h2,h3,h4,h5,h6⟩|k
    · exact .inl ⟨b,off,cap,vs,h1,h2,h3,dP.mono h cs vs h4,h5.mono h,h6.mono h⟩
    · exact .inr k
  |.ij cs,u,k=>by
    simp only[dQ] at k⊢;obtain⟨b,off,vs,h1,h4,h5⟩:=k;exact⟨b,off,vs,h1,dP.mono h cs vs h4,h5.mono h⟩
  |.ptr o off,u,k=>by
    simp only[dQ] at k⊢;obtain⟨b,h1,h2⟩:=k;exact⟨b,h.obj _ _ h1,h2⟩
  |.jd o off sz n cap,u,k=>by
    simp only[dQ] at k⊢;obtain⟨b,h1,h2⟩:=k;exact⟨b,h.obj _ _ h1,h2⟩
  |.agg cs,u,k=>by
    simp only[dQ] at k⊢;obtain⟨vs,h1,h2⟩:=k;exact⟨vs,h1,dP.mono h cs vs h2⟩
  |.ka cs,u,k=>by
    simp only[dQ] at k⊢;obtain⟨vs,h1,h2⟩:=k;exact⟨vs,h1,dP.mono h cs vs h2⟩
  |.wm f cs,u,k=>by
    simp only[dQ] at k⊢;obtain⟨vs,h1,h2⟩:=k;exact⟨vs,h1,dP.mono h cs vs h2⟩
theorem dP.mono{G G':Gh}(h:G.le G'):∀(cs:List AV)(us:List Value),dP G cs us->dP G' cs us
  |[],us,k=>by simpa[dP] using k
  |c::cs,us,k=>by
    simp only[dP] at k⊢;obtain⟨u,BW,h1,h2,h3⟩:=k;exact⟨u,BW,h1,dQ.mono h c u h2,dP.mono h cs BW h3⟩
end
theorem dP.length{G:Gh}:∀{cs:List AV}{vs:List Value},dP G cs vs->cs.length=vs.length
  |[],vs,k=>by simp only[dP] at k;simp[k]
  |c::cs,vs,k=>by
    simp only[dP] at k;obtain⟨u,BW,rfl,h2,h3⟩:=k;simp[dP.length h3]
theorem dP.get{G:Gh}:∀{cs:List AV}{vs:List Value},dP G cs vs->∀(i:Nat)(c:AV),cs[i]? =some c->∃u,vs[i]? =some u∧dQ G c u
  |[],vs,k=>sM
  |c::cs,vs,k=>by
    simp only[dP] at k;obtain⟨u,BW,rfl,h2,h3⟩:=k;intro i c' hi;cases i with
    |zero=>simp at hi;subst hi;exact⟨u,sM,h2⟩
    |succ i=>simpa using dP.get h3 i c' (by simpa using hi)
theorem dP.getD{G:Gh}{cs:List AV}{vs:List Value}(h:dP G cs vs)(i:Nat)(hi:i<cs.length):∃u,vs[i]? =some u∧dQ G (cs.getD i (.v undef)) u:=by
  obtain⟨u,h1,h2⟩:=h.get i (cs[i]) (by simp[hi]);exact⟨u,h1,by simpa[bm,hi] using h2⟩
theorem dP.append{G:Gh}:∀{cs ds:List AV}{vs us:List Value},dP G cs vs->dP G ds us->dP G (cs++ds) (vs++us)
  |[],ds,vs,us,h,k=>by simp only[dP] at h;subst h;simpa using k
  |c::cs,ds,vs,us,h,k=>by
    simp only[dP] at h;obtain⟨u,BW,rfl,h2,h3⟩:=h;simp only[List.cons_append,dP];exact⟨u,BW++us,rfl,h2,dP.append h3 k⟩
theorem dP.take{G:Gh}:∀{cs:List AV}{vs:List Value}(n:Nat),dP G cs vs->dP G (cs.take n) (vs.take n)
  |[],vs,n,h=>by simp only[dP] at h;subst h;simp[dP]
  |c::cs,vs,n,h=>by
    simp only[dP] at h;obtain⟨u,BW,rfl,h2,h3⟩:=h;cases n with
    |zero=>simp[dP]
    |succ n=>simp only[List.take_succ_cons,dP];exact⟨u,_,rfl,h2,dP.take n h3⟩
theorem dP.drop{G:Gh}:∀{cs:List AV}{vs:List Value}(n:Nat),dP G cs vs->dP G (cs.drop n) (vs.drop n)
  |[],vs,n,h=>by simp only[dP] at h;subst h;simp[dP]
  |c::cs,vs,n,h=>by
    cases n with
    |zero=>simpa using h
    |succ n=>
      simp only[dP] at h;obtain⟨u,BW,rfl,h2,h3⟩:=h;simpa using dP.drop n h3
theorem dP.set{G:Gh}:∀{cs:List AV}{vs:List Value}(n:Nat){c:AV}{u:Value},dP G cs vs->dQ G c u->dP G (cs.set n c) (vs.set n u)
  |[],vs,n,c,u,h,k=>by simp only[dP] at h;subst h;simp[dP]
  |x::cs,vs,n,c,u,h,k=>by
    simp only[dP] at h;obtain⟨y,BW,rfl,h2,h3⟩:=h;cases n with
    |zero=>simp only[List.set_cons_zero,dP];exact⟨u,BW,rfl,k,h3⟩
    |succ n=>simp only[List.set_cons_succ,dP];exact⟨y,_,rfl,h2,dP.set n h3 k⟩
theorem dP.Jo{G:Gh}:∀(l:List Value),dP G (l.map .v) l
  |[]=>by simp[dP]
  |x::l=>by simp only[aG,dP];exact⟨x,l,rfl,by simp[dQ],dP.Jo l⟩
structure AS where
  dD:Nat->Option (List AV)
  own:Nat->Option Nat
def dY{α:Type}(f:Nat->α)(d:Nat)(x:α)(i:Nat):α:=if i=d then x else f i
@[simp] theorem eL{α:Type}(f:Nat->α)(d:Nat)(x:α):dY f d x d=x:=by simp[dY]
theorem lE{α:Type}(f:Nat->α){d i:Nat}(x:α)(h:i≠d):dY f d x i=f i:=by simp[dY,h]
def AS.set(s:AS)(o:Nat)(cs:List AV):AS:={s with dD:=dY s.dD o (some cs)}
def AS.drop(s:AS)(o:Nat):AS:={s with dD:=dY s.dD o none}
def AS.eT(s:AS)(t e:Nat):AS:={s with own:=dY s.own t (some e)}
structure AS.le(s s':AS):Prop where
  dD:∀o cs,s.dD o=some cs->s'.dD o=some cs
  own:∀t e,s.own t=some e->s'.own t=some e
def iA(W W':World):Prop:=∀(k:Nat)(o:Obj),W.heap[k]? =some o->(∀c T f,o≠.cells c T f)->W'.heap[k]? =some o
theorem iA.refl(W:World):iA W W:=fun _ _ h _=>h
theorem iA.trans{A B C:World}(h:iA A B)(k:iA B C):iA A C:=fun i o hi ho=>k i o (h i o hi ho) ho
theorem iA.alloc(W:World)(x:Obj):iA W (W.alloc x):=by
  intro k o hk _;have fB:k<W.heap.size:=(Array.getElem?_eq_some_iff.1 hk).1;simp only[World.alloc,Array.getElem?_push,if_neg (Nat.ne_of_lt fB)];exact hk
theorem iA.setCell(W:World)(a:Addr)(v:Value):iA W (W.setCell a v):=by
  intro k o hk ho;simp only[World.setCell,cr,hk];split
  · cases o with
    |cells c T f=>exact absurd rfl (ho c T f)
    |_=>rfl
  · rfl
theorem iA.freeze(W:World)(a:Addr)(n:Nat):iA W (W.freeze a n):=by
  unfold dC;split
  · exact iA.refl W
  · intro k o hk ho;simp only[cr,hk];split
    · cases o with
      |cells c T f=>exact absurd rfl (ho c T f)
      |_=>rfl
    · rfl
theorem Od(w:World)(o:Obj):(w.alloc o).heap[w.heap.size]? =some o:=by show(w.heap.push o)[w.heap.size]? =some o;simp
def Kn(G:Gh)(s:AS)(b:Nat):Prop:=(∃o,G.obj o=some b)∨∃t e r,s.own t=some e∧G.tok t e=some (b,r)
def O6(K:Nat->Prop)(w:World):Prop:=∀b c T lo hi,K b->w.heap[b]? =some (.cells c T (lo,hi))->lo=hi∨c.size<=lo
theorem Kn.mono{G:Gh}{s s':AS}{b:Nat}(k:s.le s'):Kn G s b->Kn G s' b
  |.inl h=>.inl h
  |.inr ⟨t,e,r,h1,h2⟩=>.inr ⟨t,e,r,k.own t e h1,h2⟩
variable(Γ:Nat->List AV)
structure eo(G:Gh)(s:AS)(w:World):Prop where
  ro:∀b j u,G.ro b j=some u->w.cell? ⟨b,j,none⟩=some u
  dD:∀o cs,s.dD o=some cs->∃b vs,G.obj o=some b∧dP G cs vs∧G.B<=b∧(∀j u,vs[j]? =some u->w.cell? ⟨b,j,none⟩=some u∧w.frozen? ⟨b,j,none⟩=false∧G.ro b j=none)
  ib:∀o b,G.obj o=some b->b<w.heap.size
  inj:∀o o' b,G.obj o=some b->G.obj o'=some b->o=o'
  own:∀t e,s.own t=some e->∃b st en,G.tok t e=some (b,st,en)∧st<=en∧G.B<=b∧(∀j,st<=j->j<en->(∃u,w.cell? ⟨b,j,none⟩=some u)∧w.frozen? ⟨b,j,none⟩=false∧G.ro b j=none)∧(∀o,G.obj o≠some b)∧b<w.heap.size
  gM:∀t e t' e' b st en Cr Cs,s.own t=some e->s.own t'=some e'->G.tok t e=some (b,st,en)->G.tok t' e'=some (b,Cr,Cs)->t=t'
  fL:∀t e,s.own t=some e->∀e',e<e'->G.tok t e'=none
  gF:∀o,G.no<=o->G.obj o=none
  fW:∀t,G.nt<=t->∀e,G.tok t e=none
  below:Below G.B G.w0 w
  others:iA G.w0 w
  base:G.B<=w.heap.size
  nE:∀g,∃vs,dP G (Γ g) vs∧mT G g 0 vs
  soft:O6 (Kn G s) w
variable{Γ}
theorem eo.mono{G:Gh}{s s':AS}{w:World}(h:eo Γ G s' w)(k:s.le s'):eo Γ G s w:=
  ⟨h.ro,fun o cs hc=>h.dD o cs (k.dD o cs hc),h.ib,h.inj,fun t e he=>h.own t e (k.own t e he),
   fun t e t' e' b st en Cr Cs h1 h2=>h.gM t e t' e' b st en Cr Cs (k.own t e h1) (k.own t' e' h2),
   fun t e he=>h.fL t e (k.own t e he),h.gF,h.fW,h.below,h.others,h.base,h.nE,fun b c T lo hi hb=>h.soft b c T lo hi (hb.mono k)⟩
theorem eo.xfj{G:Gh}{s:AS}{w:World}(h:eo Γ G s w){b:Nat}(hb:Kn G s b):b<w.heap.size:=by
  rcases hb with⟨o,ho⟩|⟨t,e,r,h1,h2⟩
  · exact h.ib o b ho
  · obtain⟨b',st,en,k1,_,_,_,_,k6⟩:=h.own t e h1;rw[h2] at k1;cases k1;exact k6
theorem eo.L4{G:Gh}{s:AS}{w:World}(h:eo Γ G s w){o:Nat}(ho:G.no<=o):s.dD o=none:=by
  cases hs:s.dD o with
  |none=>rfl
  |some cs=>obtain⟨b,vs,h1,_⟩:=h.dD o cs hs;rw[h.gF o ho] at h1;cases h1
theorem eo.nj{G:Gh}{s:AS}{w:World}(h:eo Γ G s w){t:Nat}(ht:G.nt<=t):s.own t=none:=by
  cases hs:s.own t with
  |none=>rfl
  |some e=>obtain⟨b,st,en,h1,_⟩:=h.own t e hs;rw[h.fW t ht] at h1;cases h1
theorem eo.drew{G:Gh}{s:AS}{w:World}(h:eo Γ G s w):eo Γ G s w.drew:=
  ⟨h.ro,h.dD,h.ib,h.inj,h.own,h.gM,h.fL,h.gF,h.fW,h.below.drew,h.others,h.base,h.nE,h.soft⟩
theorem xh{w:World}{o:Obj}{b j:Nat}{u:Value}(h:w.cell? ⟨b,j,none⟩=some u):(w.alloc o).cell? ⟨b,j,none⟩=some u:=by
  rw[World.cell?_alloc_lt w o ⟨b,j,none⟩ (World.block_lt_of_cell? w _ h),h]
theorem yg{w:World}{o:Obj}{b j:Nat}(hb:b<w.heap.size):(w.alloc o).frozen? ⟨b,j,none⟩=w.frozen? ⟨b,j,none⟩:=
  World.frozen?_alloc_old w o ⟨b,j,none⟩ (Nat.ne_of_lt hb)
theorem eo.alloc{G:Gh}{s:AS}{w:World}(h:eo Γ G s w)(x:Obj)(hx:∀c T lo hi,x=.cells c T (lo,hi)->lo=hi∨c.size<=lo:=by intro c T lo hi e;cases e;exact .inl rfl):eo Γ G s (w.alloc x) where
  ro b j u hu:=xh (h.ro b j u hu)
  dD o cs hc:=by
    obtain⟨b,vs,h1,h2,h3,h4⟩:=h.dD o cs hc;exact⟨b,vs,h1,h2,h3,fun j u hu=>⟨xh (h4 j u hu).1,by rw[yg (h.ib o b h1)];exact(h4 j u hu).2.1,(h4 j u hu).2.2⟩⟩
  ib o b hb:=by have:=h.ib o b hb;simp;omega
  inj:=h.inj;own t e he:=by
    obtain⟨b,st,en,h1,h2,h3,h4,h5,h6⟩:=h.own t e he;refine⟨b,st,en,h1,h2,h3,fun j hj nH=>?_,h5,by simp;omega⟩;obtain⟨⟨u,hu⟩,h7,h8⟩:=h4 j hj nH;exact⟨⟨u,xh hu⟩,by rw[yg h6];exact h7,h8⟩
  gM:=h.gM;fL:=h.fL;gF:=h.gF;fW:=h.fW;below:=h.below.alloc h.base _;others:=h.others.trans (iA.alloc _ _);base:=by have:=h.base;simp;omega
  nE:=h.nE;soft b c T lo hi hb hc:=by
    simp only[World.alloc,Array.getElem?_push] at hc;split at hc
    · cases hc;exact hx _ _ _ _ rfl
    · exact h.soft b c T lo hi hb hc
def Gh.kD(G:Gh)(o b:Nat):Gh:={G with obj:=dY G.obj o (some b),no:=max G.no (o+1)}
theorem Gh.O7{G:Gh}{o:Nat}(b:Nat)(ho:G.obj o=none):G.le (G.kD o b):=
  ⟨fun _ _ _ h=>h,fun o' b' h=>by
    by_cases e:o'=o
    · subst e;rw[ho] at h;cases h
    · simpa[Gh.kD,dY,e] using h,fun _ _ _ h=>h,rfl,rfl,rfl⟩
theorem eo.newObj{G:Gh}{s:AS}{w:World}(h:eo Γ G s w){cs:List AV}{vs:List Value}(hv:dP G cs vs)(T:TypeId):
    ∃o,s.dD o=none∧G.le (G.kD o w.heap.size)∧eo Γ (G.kD o w.heap.size) (s.set o cs) (w.alloc (.cells vs.toArray T))∧(G.kD o w.heap.size).obj o=some w.heap.size:=by
  have ho:G.obj G.no=none:=h.gF _ (ax _);have hle:=Gh.O7 w.heap.size ho;refine⟨G.no,h.L4 (ax _),hle,?_,by simp[Gh.kD]⟩;have h':=h.alloc (.cells vs.toArray T);constructor;case ro=>exact h'.ro
  case dD=>
    intro o cs' hc;by_cases e:o=G.no
    · subst e;simp[AS.set] at hc;subst hc;refine⟨w.heap.size,vs,by simp[Gh.kD],dP.mono hle _ _ hv,h.base,fun j u hu=>⟨by simpa using hu,World.frozen?_alloc_new ..,?_⟩⟩;cases hr:(G.kD G.no w.heap.size).ro w.heap.size j with
      |none=>rfl
      |some x=>exact absurd (World.block_lt_of_cell? w _ (h.ro _ _ _ hr)) (cy _)
    · simp[AS.set,dY,e] at hc;obtain⟨b,us,h1,h2,h3,h4⟩:=h'.dD o cs' hc;exact⟨b,us,hle.obj _ _ h1,dP.mono hle _ _ h2,h3,h4⟩
  case ib=>
    intro o b hb;by_cases e:o=G.no
    · subst e;simp[Gh.kD] at hb;subst hb;simp
    · simp[Gh.kD,dY,e] at hb;exact h'.ib o b hb
  case inj=>
    intro o o' b h1 h2;by_cases e:o=G.no<;>by_cases e':o'=G.no
    · rw[e,e']
    · subst e;simp[Gh.kD,dY,e'] at h1 h2;subst h1;exact absurd (h.ib _ _ h2) (cy _)
    · subst e';simp[Gh.kD,dY,e] at h1 h2;subst h2;exact absurd (h.ib _ _ h1) (cy _)
    · simp[Gh.kD,dY,e,e'] at h1 h2;exact h.inj o o' b h1 h2
  case own=>
    intro t e he;obtain⟨b,st,en,h1,h2,h3,h4,h5,h6⟩:=h'.own t e he;obtain⟨b1,st1,en1,k1,_,_,_,_,k6⟩:=h.own t e he;refine⟨b,st,en,h1,h2,h3,h4,fun o wy=>?_,h6⟩;by_cases e':o=G.no
    · subst e';simp[Gh.kD] at wy;rw[h1] at k1;simp at k1;omega
    · simp[Gh.kD,dY,e'] at wy;exact h5 o wy
  case gM=>exact h'.gM
  case fL=>exact h'.fL
  case gF=>
    intro o wy;simp[Gh.kD] at wy;have :o≠G.no:=oM;simp[Gh.kD,dY,this];exact h.gF o oM
  case fW=>exact h'.fW
  case below=>exact h'.below
  case others=>exact h'.others
  case base=>exact h'.base
  case soft=>
    rintro b c T' lo hi hb hc;rcases hb with⟨o',wy⟩|⟨t,e,r,h1,h2⟩
    · by_cases e:o'=G.no
      · subst e;simp only[Gh.kD,eL,aU] at wy;subst wy;rw[Od] at hc;cases hc;exact .inl rfl
      · exact h'.soft b c T' lo hi (.inl ⟨o',by simpa[Gh.kD,dY,e] using wy⟩) hc
    · exact h'.soft b c T' lo hi (.inr ⟨t,e,r,h1,h2⟩) hc
  case nE=>
    intro g;obtain⟨us,h1,h2⟩:=h.nE g;exact⟨us,dP.mono hle _ _ h1,h2.mono hle⟩
def Gh.kT(G:Gh)(b off:Nat)(vs:List Value):Gh:=
  {G with ro:=fun b' j=>if b'=b∧off<=j∧j<off+vs.length then vs[j-off]? else G.ro b' j}
theorem Gh.CI{G:Gh}{b off:Nat}{vs:List Value}(h:∀j,off<=j->j<off+vs.length->G.ro b j=none):G.le (G.kT b off vs):=by
  refine⟨fun b' j u hu=>?_,fun _ _ h=>h,fun _ _ _ h=>h,rfl,rfl,rfl⟩;simp only[Gh.kT];split
  · rename_i hc;obtain⟨rfl,h1,h2⟩:=hc;rw[h j h1 h2] at hu;cases hu
  · exact hu
theorem mT.added(G:Gh)(b off:Nat)(vs:List Value):mT (G.kT b off vs) b off vs:=by
  intro j u hu;have hj:j<vs.length:=by
    rcases ch j vs.length with h|h
    · exact h
    · simp[a8 h] at hu
  simp only[Gh.kT];rw[if_pos ⟨trivial,oM,oM⟩];simpa using hu
theorem xi{G:Gh}{s:AS}{w:World}(h:eo Γ G s w)(j:Nat):G.ro w.heap.size j=none:=by
  cases hr:G.ro w.heap.size j with
  |none=>rfl
  |some x=>exact absurd (World.block_lt_of_cell? w _ (h.ro _ _ _ hr)) (cy _)
theorem eo.Xj{G:Gh}{s:AS}{w:World}(h:eo Γ G s w)(vs:List Value)(c:Array Value)(T:TypeId)(hc:∀(j:Nat)(u:Value),vs[j]? =some u->c[j]? =some u):
    G.le (G.kT w.heap.size 0 vs)∧eo Γ (G.kT w.heap.size 0 vs) s (w.alloc (.cells c T)):=by
  have hle:G.le (G.kT w.heap.size 0 vs):=Gh.CI fun j _ _=>xi h j;refine⟨hle,?_⟩;have h':=h.alloc (.cells c T);have vN:∀b j,b≠w.heap.size->(G.kT w.heap.size 0 vs).ro b j=G.ro b j:=(fun b j hb=>by simp[Gh.kT,hb]);constructor;case ro=>
    intro b j u hu;by_cases e:b=w.heap.size
    · subst e;simp only[Gh.kT] at hu;split at hu
      · rename_i hj;rw[World.cell?_alloc_new];exact hc j u (by simpa using hu)
      · rw[xi h j] at hu;cases hu
    · rw[vN b j e] at hu;exact h'.ro b j u hu
  case dD=>
    intro o cs ho;obtain⟨b,us,h1,h2,h3,h4⟩:=h'.dD o cs ho;refine⟨b,us,h1,dP.mono hle _ _ h2,h3,fun j u hu=>⟨(h4 j u hu).1,(h4 j u hu).2.1,?_⟩⟩;rw[vN b j (Nat.ne_of_lt (h.ib o b h1))];exact(h4 j u hu).2.2
  case ib=>exact h'.ib
  case inj=>exact h'.inj
  case own=>
    intro t e he;obtain⟨b,st,en,h1,h2,h3,h4,h5,h6⟩:=h'.own t e he;obtain⟨b1,st1,en1,k1,_,_,_,_,k6⟩:=h.own t e he;rw[h1] at k1;simp at k1;refine⟨b,st,en,h1,h2,h3,fun j hj nH=>⟨(h4 j hj nH).1,(h4 j hj nH).2.1,?_⟩,h5,h6⟩;rw[vN b j oM];exact(h4 j hj nH).2.2
  case gM=>exact h'.gM
  case fL=>exact h'.fL
  case gF=>exact h'.gF
  case fW=>exact h'.fW
  case below=>exact h'.below
  case others=>exact h'.others
  case base=>exact h'.base
  case soft=>exact h'.soft
  case nE=>
    intro g;obtain⟨us,h1,h2⟩:=h.nE g;exact⟨us,dP.mono hle _ _ h1,h2.mono hle⟩
theorem yh{K:Nat->Prop}{w:World}(h:O6 K w){a:Addr}{u:Value}:
    ∀b c T lo hi,K b->(w.setCell a u).heap[b]? =some (.cells c T (lo,hi))->lo=hi∨c.size<=lo:=by
  intro b c T lo hi hb hc;simp only[World.setCell,cr] at hc;split at hc
  · cases hh:w.heap[b]? with
    |none=>simp[hh] at hc
    |some o=>
      simp only[hh,cl,aU] at hc;cases o with
      |cells c' T' fr=>
        obtain⟨YF,et⟩:=fr;simp only[Obj.cells.injEq,Prod.mk.injEq] at hc;obtain⟨h1,rfl,rfl,rfl⟩:=hc;have:=h b c' T' YF et hb hh;have hs:c.size=c'.size:=by
          rw[<-h1];split <;>simp
        omega
      |_=>cases hc
  · exact h b c T lo hi hb hc
theorem eo.setCell{G:Gh}{s:AS}{w:World}(h:eo Γ G s w){o b i:Nat}{cs:List AV}{c:AV}{u:Value}(ho:s.dD o=some cs)(hb:G.obj o=some b)(hi:i<cs.length)(hc:dQ G c u):
    (∃u0,w.cell? ⟨b,i,none⟩=some u0)∧w.frozen? ⟨b,i,none⟩=false∧eo Γ G (s.set o (cs.set i c)) (w.setCell ⟨b,i,none⟩ u):=by
  obtain⟨b',vs,h1,h2,h3,h4⟩:=h.dD o cs ho;rw[hb] at h1;cases h1;have hl:=h2.length;have hiv:vs[i]? =some vs[i]:=sM;obtain⟨Ct,EX,hc3⟩:=h4 i _ hiv;refine⟨⟨_,Ct⟩,EX,?_⟩;have gP:∀(b' j':Nat),(b'≠b∨j'≠i)->(w.setCell ⟨b,i,none⟩ u).cell? ⟨b',j',none⟩=w.cell? ⟨b',j',none⟩:=by
    intro b' j' hd;refine World.cell?_setCell_other _ _ _ _ ?_;intro e;simp at e;omega
  constructor;case ro=>
    intro b' j' u' UY;rw[gP]
    · exact h.ro b' j' u' UY
    · by_cases e:b'=b
      · subst e;right;intro e;subst e;rw[hc3] at UY;cases UY
      · exact .inl e
  case dD=>
    intro o' cs' EY;by_cases e:o'=o
    · subst e;simp[AS.set] at EY;subst EY;refine⟨b,vs.set i u,hb,h2.set i hc,h3,fun j y hy=>?_⟩;by_cases e:j=i
      · subst e;rw[List.getElem?_set_self oM] at hy;cases hy;exact⟨World.cell?_setCell_same _ _ _ Ct,by simpa using EX,hc3⟩
      · rw[List.getElem?_set_ne oM] at hy;rw[gP _ _ (.inr e)];obtain⟨k1,k2,k3⟩:=h4 j y hy;exact⟨k1,by simpa using k2,k3⟩
    · simp[AS.set,dY,e] at EY;obtain⟨b',us,k1,k2,k3,k4⟩:=h.dD o' cs' EY;refine⟨b',us,k1,k2,k3,fun j y hy=>?_⟩;have ES:b'≠b:=fun e'=>e (h.inj o' o b (e' ▸ k1) hb);rw[gP _ _ (.inl ES)];obtain⟨l1,l2,l3⟩:=k4 j y hy;exact⟨l1,by simpa using l2,l3⟩
  case ib=>intro o b hb;simpa using h.ib o b hb
  case inj=>exact h.inj
  case own=>
    intro t e he;obtain⟨b',st,en,k1,k2,k3,k4,k5,k6⟩:=h.own t e he;refine⟨b',st,en,k1,k2,k3,fun j hj nH=>?_,k5,by simpa using k6⟩;have ES:b'≠b:=fun e'=>k5 o (e' ▸ hb);rw[gP _ _ (.inl ES)];obtain⟨l1,l2,l3⟩:=k4 j hj nH;exact⟨l1,by simpa using l2,l3⟩
  case gM=>exact h.gM
  case fL=>exact h.fL
  case gF=>exact h.gF
  case fW=>exact h.fW
  case below=>exact h.below.setCell h3 _
  case others=>exact h.others.trans (iA.setCell _ _ _)
  case base=>simpa using h.base
  case soft=>exact yh h.soft
  case nE=>exact h.nE
theorem eo.freeze{G:Gh}{s:AS}{w:World}(h:eo Γ G s w){o:Nat}{cs:List AV}(ho:s.dD o=some cs):
    ∃b vs,G.obj o=some b∧dP G cs vs∧G.le (G.kT b 0 vs)∧mT (G.kT b 0 vs) b 0 vs∧eo Γ (G.kT b 0 vs) (s.drop o) w:=by
  obtain⟨b,vs,h1,h2,h3,h4⟩:=h.dD o cs ho;have hle:G.le (G.kT b 0 vs):=Gh.CI fun j _ hj=>by
    have hj:j<vs.length:=oM;exact(h4 j vs[j] sM).2.2
  have vN:∀b' j,b'≠b->(G.kT b 0 vs).ro b' j=G.ro b' j:=(fun b' j hb=>by simp[Gh.kT,hb]);refine⟨b,vs,h1,h2,hle,mT.added G b 0 vs,?_⟩;constructor;case ro=>
    intro b' j u hu;by_cases e:b'=b
    · subst e;simp only[Gh.kT] at hu;split at hu
      · exact(h4 j u (by simpa using hu)).1
      · exact h.ro _ j u hu
    · rw[vN b' j e] at hu;exact h.ro b' j u hu
  case dD=>
    intro o' cs' wy;by_cases e:o'=o
    · subst e;simp[AS.drop] at wy
    · simp[AS.drop,dY,e] at wy;obtain⟨b',us,k1,k2,k3,k4⟩:=h.dD o' cs' wy;have ES:b'≠b:=fun e'=>e (h.inj o' o b (e' ▸ k1) h1);refine⟨b',us,k1,dP.mono hle _ _ k2,k3,fun j u hu=>⟨(k4 j u hu).1,(k4 j u hu).2.1,?_⟩⟩;rw[vN b' j ES];exact(k4 j u hu).2.2
  case ib=>exact h.ib
  case inj=>exact h.inj
  case own=>
    intro t e he;obtain⟨b',st,en,k1,k2,k3,k4,k5,k6⟩:=h.own t e he;have ES:b'≠b:=fun e'=>k5 o (e' ▸ h1);refine⟨b',st,en,k1,k2,k3,fun j hj nH=>⟨(k4 j hj nH).1,(k4 j hj nH).2.1,?_⟩,k5,k6⟩;rw[vN b' j ES];exact(k4 j hj nH).2.2
  case gM=>exact h.gM
  case fL=>exact h.fL
  case gF=>exact h.gF
  case fW=>exact h.fW
  case below=>exact h.below
  case others=>exact h.others
  case base=>exact h.base
  case soft=>exact h.soft
  case nE=>
    intro g;obtain⟨us,h1,h2⟩:=h.nE g;exact⟨us,dP.mono hle _ _ h1,h2.mono hle⟩
def Gh.nI(G:Gh)(t e:Nat)(r:Nat×Nat×Nat):Gh:=
  {G with tok:=fun t' e'=>if t'=t∧e'=e then some r else G.tok t' e',nt:=max G.nt (t+1)}
theorem Gh.O8{G:Gh}{t e:Nat}(r:Nat×Nat×Nat)(h:G.tok t e=none):G.le (G.nI t e r):=by
  refine⟨fun _ _ _ h=>h,fun _ _ h=>h,fun t' e' r' hr=>?_,rfl,rfl,rfl⟩;simp only[Gh.nI];split
  · rename_i hc;obtain⟨rfl,rfl⟩:=hc;rw[h] at hr;cases hr
  · exact hr
theorem eo.eT{G:Gh}{s:AS}{w:World}(h:eo Γ G s w){t e b st en:Nat}(hn:G.tok t e=none)(hl:∀e',e<e'->G.tok t e'=none)
    (h1:st<=en) (h2:G.B<=b) (h3:∀j,st<=j->j<en->(∃u,w.cell? ⟨b,j,none⟩=some u)∧w.frozen? ⟨b,j,none⟩=false∧G.ro b j=none) (h4:∀o,G.obj o≠some b) (h5:b<w.heap.size)
    (h6:∀t' e' Cr Cs,t'≠t->s.own t'=some e'->G.tok t' e'≠some (b,Cr,Cs)) (h7:∀c T lo hi,w.heap[b]? =some (.cells c T (lo,hi))->lo=hi∨c.size<=lo):
    G.le (G.nI t e (b,st,en))∧eo Γ (G.nI t e (b,st,en)) (s.eT t e) w:=by
  have hle:=Gh.O8 (b,st,en) hn;refine⟨hle,?_⟩;have si:∀t' e',t'≠t->(G.nI t e (b,st,en)).tok t' e'=G.tok t' e':=(fun t' e' gP=>by simp[Gh.nI,gP]);constructor;case ro=>exact h.ro
  case dD=>
    intro o cs ho;obtain⟨b',us,k1,k2,k3,k4⟩:=h.dD o cs ho;exact⟨b',us,k1,dP.mono hle _ _ k2,k3,k4⟩
  case ib=>exact h.ib
  case inj=>exact h.inj
  case own=>
    intro t' e' he;by_cases ht:t'=t
    · subst ht;simp[AS.eT] at he;subst he;exact⟨b,st,en,by simp[Gh.nI],h1,h2,h3,h4,h5⟩
    · simp[AS.eT,dY,ht] at he;obtain⟨b',Cr,Cs,k1,k2,k3,k4,k5,k6⟩:=h.own t' e' he;exact⟨b',Cr,Cs,by rw[si _ _ ht];exact k1,k2,k3,k4,k5,k6⟩
  case gM=>
    intro t1 e1 t2 e2 b' st1 en1 st2 en2 o1 o2 k1 k2;by_cases c1:t1=t<;>by_cases c2:t2=t
    · rw[c1,c2]
    · subst c1;simp[AS.eT,dY,c2] at o1 o2;subst o1;rw[si _ _ c2] at k2;simp[Gh.nI] at k1;obtain⟨rfl,rfl,rfl⟩:=k1;exact absurd k2 (h6 t2 e2 _ _ c2 o2)
    · subst c2;simp[AS.eT,dY,c1] at o1 o2;subst o2;rw[si _ _ c1] at k1;simp[Gh.nI] at k2;obtain⟨rfl,rfl,rfl⟩:=k2;exact absurd k1 (h6 t1 e1 _ _ c1 o1)
    · simp[AS.eT,dY,c1,c2] at o1 o2;rw[si _ _ c1] at k1;rw[si _ _ c2] at k2;exact h.gM t1 e1 t2 e2 b' st1 en1 st2 en2 o1 o2 k1 k2
  case fL=>
    intro t' e' he e'' fB;by_cases ht:t'=t
    · subst ht;simp[AS.eT] at he;subst he;have :e''≠e:=oM;simp[Gh.nI,this,hl e'' fB]
    · simp[AS.eT,dY,ht] at he;rw[si _ _ ht];exact h.fL t' e' he e'' fB
  case gF=>exact h.gF
  case fW=>
    intro t' ta e';simp only[Gh.nI] at ta;rw[si _ _ oM];exact h.fW t' oM e'
  case below=>exact h.below
  case others=>exact h.others
  case base=>exact h.base
  case soft=>
    rintro b' c T' lo hi hb hc;rcases hb with⟨o',wy⟩|⟨t',e',r,q1,q2⟩
    · exact h.soft b' c T' lo hi (.inl ⟨o',wy⟩) hc
    · by_cases ht:t'=t
      · subst ht;simp[AS.eT] at q1;subst q1;simp[Gh.nI] at q2;exact h7 c T' lo hi (by rw[q2.1];exact hc)
      · simp[AS.eT,dY,ht] at q1;rw[si _ _ ht] at q2;exact h.soft b' c T' lo hi (.inr ⟨t',e',r,q1,q2⟩) hc
  case nE=>
    intro g;obtain⟨us,h1,h2⟩:=h.nE g;exact⟨us,dP.mono hle _ _ h1,h2.mono hle⟩
structure Gh.sub(G G':Gh):Prop where
  ro:G'.ro=G.ro
  obj:G'.obj=G.obj
  tok:G'.tok=G.tok
  B:G'.B=G.B
theorem mT.sub{G G':Gh}(h:G.sub G'){b off:Nat}{vs:List Value}(k:mT G b off vs):mT G' b off vs:=fun j u hj=>by rw[h.ro];exact k j u hj
theorem ke.sub{G G':Gh}(h:G.sub G'){b off sz n cap:Nat}{sp:Sp}(k:ke G b off sz n cap sp):ke G' b off sz n cap sp:=by
  cases sp with
  |no=>trivial
  |any=>trivial
  |full=>exact k
  |new=>exact⟨k.1,by rw[h.B];exact k.2⟩
  |own t e=>simp only[ke] at k⊢;rw[h.tok];exact k
mutual
theorem dQ.sub{G G':Gh}(h:G.sub G'):∀(c:AV)(u:Value),dQ G c u->dQ G' c u
  |.v x,u,k=>by simpa[dQ] using k
  |.sl sz n cs sp,u,k=>by
    simp only[dQ] at k⊢;rcases k with⟨b,off,cap,vs,h1,h2,h3,h4,h5,h6⟩|k
    · exact .inl ⟨b,off,cap,vs,h1,h2,h3,dP.sub h cs vs h4,h5.sub h,h6.sub h⟩
    · exact .inr k
  |.ij cs,u,k=>by
    simp only[dQ] at k⊢;obtain⟨b,off,vs,h1,h4,h5⟩:=k;exact⟨b,off,vs,h1,dP.sub h cs vs h4,h5.sub h⟩
  |.ptr o off,u,k=>by
    simp only[dQ] at k⊢;rw[h.obj];exact k
  |.jd o off sz n cap,u,k=>by
    simp only[dQ] at k⊢;rw[h.obj];exact k
  |.agg cs,u,k=>by
    simp only[dQ] at k⊢;obtain⟨vs,h1,h2⟩:=k;exact⟨vs,h1,dP.sub h cs vs h2⟩
  |.ka cs,u,k=>by
    simp only[dQ] at k⊢;obtain⟨vs,h1,h2⟩:=k;exact⟨vs,h1,dP.sub h cs vs h2⟩
  |.wm f cs,u,k=>by
    simp only[dQ] at k⊢;obtain⟨vs,h1,h2⟩:=k;exact⟨vs,h1,dP.sub h cs vs h2⟩
theorem dP.sub{G G':Gh}(h:G.sub G'):∀(cs:List AV)(us:List Value),dP G cs us->dP G' cs us
  |[],us,k=>by simpa[dP] using k
  |c::cs,us,k=>by
    simp only[dP] at k⊢;obtain⟨u,BW,h1,h2,h3⟩:=k;exact⟨u,BW,h1,dQ.sub h c u h2,dP.sub h cs BW h3⟩
end
theorem eo.sub{G G':Gh}(k:G.sub G'){s:AS}{w:World}(h:eo Γ G s w)(uS:G'.no=G.no)(hnt:G'.nt=G.nt)(hb:Below G.B G'.w0 w)(hk:iA G'.w0 w):eo Γ G' s w where
  ro:=by rw[k.ro];exact h.ro
  dD o cs ho:=by
    obtain⟨b,us,k1,k2,k3,k4⟩:=h.dD o cs ho;exact⟨b,us,by rw[k.obj];exact k1,dP.sub k _ _ k2,by rw[k.B];exact k3,by rw[k.ro];exact k4⟩
  ib:=by rw[k.obj];exact h.ib
  inj:=by rw[k.obj];exact h.inj
  own:=by rw[k.tok,k.B,k.ro,k.obj];exact h.own
  gM:=by rw[k.tok];exact h.gM
  fL:=by rw[k.tok];exact h.fL
  gF:=by rw[k.obj,uS];exact h.gF
  fW:=by rw[k.tok,hnt];exact h.fW
  below:=by rw[k.B];exact hb
  others:=hk;base:=by rw[k.B];exact h.base
  soft b c T lo hi hb:=h.soft b c T lo hi (by simpa only[Kn,k.obj,k.tok] using hb);nE g:=by
    obtain⟨us,h1,h2⟩:=h.nE g;exact⟨us,dP.sub k _ _ h1,h2.sub k⟩
def Gh.gQ(G:Gh)(d:List Deferred):Gh:={G with df:=d}
theorem Gh.F5(G:Gh)(d:List Deferred):G.sub (G.gQ d):=⟨rfl,rfl,rfl,rfl⟩
theorem dQ.gQ{G:Gh}{d:List Deferred}(c:AV)(u:Value)(h:dQ G c u):dQ (G.gQ d) c u:=dQ.sub (G.F5 d) c u h
theorem eo.gQ{G:Gh}{s:AS}{w:World}{d:List Deferred}(h:eo Γ G s w):eo Γ (G.gQ d) s w:=h.sub (G.F5 d) rfl rfl h.below h.others
theorem Gh.CJ{G G':Gh}{d:List Deferred}(h:(G.gQ d).le G'):G.le (G'.gQ G.df):=
  ⟨h.ro,h.obj,h.tok,h.B,h.w0,rfl⟩
def Gh.setW(G:Gh)(w:World):Gh:={G with w0:=w}
theorem Gh.mU(G:Gh)(w:World):G.sub (G.setW w):=⟨rfl,rfl,rfl,rfl⟩
theorem eo.setW{G:Gh}{s:AS}{w:World}(h:eo Γ G s w):eo Γ (G.setW w) s w:=h.sub (G.mU w) rfl rfl (Below.refl _ _) (iA.refl _)
theorem eo.yi{G G':Gh}{s s':AS}{w w':World}(h:eo Γ G s w)(hle:(G.setW w).le G')(h':eo Γ G' s' w'):eo Γ (G'.setW G.w0) s' w'∧G.le (G'.setW G.w0):=by
  have hw:G'.w0=w:=hle.w0;have hB:G'.B=G.B:=hle.B;refine⟨h'.sub (G'.mU _) rfl rfl ?_ ?_,⟨hle.ro,hle.obj,hle.tok,hle.B,rfl,hle.df⟩⟩
  · have:=h'.below;rw[hw,hB] at this;rw[hB];exact h.below.trans this
  · have:=h'.others;rw[hw] at this;exact h.others.trans this
end Go.AM
namespace Go.AM
open Go Go.RowKit
def cU(b:UInt8):AV:=.v (.int .u8 b.toNat)
def byteOf:AV->UInt8
  |.v (.int _ n)=>az n.toNat
  |_=>0
def isByte:AV->Bool
  |.v (.int .u8 _)=>true
  |_=>false
def p8(cs:List AV):ByteArray:=⟨(cs.map byteOf).toArray⟩
@[simp] theorem UZ(b:UInt8):byteOf (cU b)=b:=by simp[byteOf,cU]
@[simp] theorem U0(b:UInt8):isByte (cU b)=true:=rfl
@[simp] theorem lF(l:List UInt8):p8 (l.map cU)=⟨l.toArray⟩:=by
  simp[p8,Function.comp_def]
@[simp] theorem lG(l:List UInt8):(l.map cU).all isByte=true:=sM
def AV.cells:AV->List AV
  |.agg cs=>cs
  |.v (.agg c)=>c.toList.map .v
  |x=>[x]
def AV.one:AV->Bool
  |.agg _|.ka _|.v (.agg _)|.v (.tuple _)=>false
  |_=>true
@[simp] theorem xaL(b:UInt8):(cU b).one=true:=rfl
def fC(P:Program)(t:TypeId):Option Bool:=
  match P.underlying t with
  |some (.struct _)|some (.array _ _)=>some true
  |some _=>some false
  |none=>none
def fk(P:Program)(t:TypeId)(i:Nat):Option (Nat×TypeId):=
  match P.underlying t with
  |some (.struct fs)=>(fs[i]?).map fun f=>(f.offset,f.type)
  |_=>none
def kf(P:Program)(t:TypeId):Bool:=
  match P.underlying t with
  |some (.struct fs)=>fs.all fun f=>(P.info? f.type).isSome
  |_=>false
def placeOf(P:Program)(t:TypeId)(i:Nat):Option (Nat×Nat):=
  match fk P t i with
  |some (o,u)=>some (o,P.cellsOf u)
  |none=>none
def eO(P:Program)(t:TypeId):Option (List AV):=
  ((P.info? t).bind (·.zero)).map fun z=>z.cells.toList.map .v
def rF(n:Nat)(z:List AV):List AV:=(aq n).map fun i=>z.getD (i%z.length) (.v default)
theorem Jp(n:Nat)(x:AV):rF n [x]=ae n x:=by
  apply List.ext_getElem
  · simp[rF]
  · intro i h1 h2;simp[rF,Nat.mod_one]
def apart(P:Program)(t:TypeId)(cs:List AV)(off:Nat):Option AV:=
  match fC P t with
  |some true=>some (.agg ((cs.drop off).take (P.cellsOf t)))
  |some false=>cs[off]?
  |none=>none
def eQ(cells:List AV)(off:Nat):List AV->List AV
  |[]=>cells
  |x::xs=>eQ (cells.set off x) (off+1) xs
def ov(place:Nat->Option (Nat×Nat))(cells:List AV):List (Nat×AV)->Option (List AV)
  |[]=>some cells
  |(i,v)::rest=>
    match place i with
    |none=>none
    |some (off,size)=>
      if v.cells.length≠size∨off+v.cells.length>cells.length then none
      else ov place (eQ cells off v.cells) rest
def tY(P:Program)(t:TypeId)(cs:List AV):Option AV:=
  match fC P t with
  |some true=>if P.cellsOf t<=cs.length then some (.agg (cs.take (P.cellsOf t))) else none
  |some false=>cs[0]?
  |none=>none
def iY(k:IntKind)(a b:Int):Int:=k.wrap (a+b)
def gR(k:IntKind)(a b:Int):Int:=k.wrap (a-b)
def mF(k:IntKind)(a b:Int):Int:=k.wrap (a*b)
def nn(k:IntKind)(a b:Int):Int:=k.wrap (a.tdiv b)
def mG(a b:Int):Int:=a.tmod b
def rG(k:IntKind)(a b:Int):Int:=k.wrap (cY k.bits a &&& cY k.bits b).toNat
def L5(k:IntKind)(a b:Int):Int:=k.wrap (cY k.bits a ||| cY k.bits b).toNat
def BX(k:IntKind)(a b:Int):Int:=k.wrap (cY k.bits a ^^^ cY k.bits b).toNat
def Oe(k:IntKind)(a b:Int):Int:=k.wrap (cY k.bits a &&& ~~~ cY k.bits b).toNat
def oo(k:IntKind)(a b:Int):Int:=k.wrap (a*2^(min b.toNat k.bits))
def kE(k:IntKind)(a b:Int):Int:=a.fdiv (2^(min b.toNat k.bits))
def Jq(k:IntKind)(a:Int):Int:=k.wrap (0-a)
def Q9(k:IntKind)(a:Int):Int:=k.wrap (cY k.bits (if k.signed then -1 else k.max) ^^^ cY k.bits a).toNat
def gq(k:IntKind)(a:Int):Int:=k.wrap a
def lH(op:BinOp)(k:IntKind)(a b:Int):Option AV:=
  match op with
  |.add=>some (.v (.int k (iY k a b)))
  |.sub=>some (.v (.int k (gR k a b)))
  |.mul=>some (.v (.int k (mF k a b)))
  |.quo=>if b=0 then none else some (.v (.int k (nn k a b)))
  |.rem=>if b=0 then none else some (.v (.int k (mG a b)))
  |.and=>some (.v (.int k (rG k a b)))
  |.or=>some (.v (.int k (L5 k a b)))
  |.xor=>some (.v (.int k (BX k a b)))
  |.andNot=>some (.v (.int k (Oe k a b)))
  |.eql=>some (.v (.bool (a==b)))
  |.neq=>some (.v (.bool (a != b)))
  |.lss=>some (.v (.bool (a<b)))
  |.leq=>some (.v (.bool (a<=b)))
  |.gtr=>some (.v (.bool (a>b)))
  |.geq=>some (.v (.bool (a≥b)))
  |_=>none
def ashift(op:BinOp)(k:IntKind)(a b:Int):Option AV:=
  if b<0 then none else
  match op with
  |.shl=>some (.v (.int k (oo k a b)))
  |.shr=>some (.v (.int k (kE k a b)))
  |_=>none
def CK(op:BinOp)(x y:ByteArray):Option AV:=
  match op with
  |.add=>if((x.size+y.size:Nat):Int)>c9.max then none else some (.v (.string (x++y)))
  |.eql=>some (.v (.bool (x.toList==y.toList)))
  |.neq=>some (.v (.bool !(x.toList==y.toList)))
  |_=>none
def Bg(P:Program)(T:TypeId)(op:BinOp)(x y:Bool):Option AV:=
  match op,P.underlying T with
  |.eql,some .bool=>some (.v (.bool (x==y)))
  |.neq,some .bool=>some (.v (.bool !(x==y)))
  |_,_=>none
def sE(op:BinOp)(t:Bool):Option AV:=
  match op with
  |.eql=>some (.v (.bool t))
  |.neq=>some (.v (.bool !t))
  |_=>none
def O9(P:Program):Nat->List Field->List AV->List AV->Option Bool
  |_,[],_,_=>some true
  |i,f::fs,.v (.int k a)::xs,.v (.int k' b)::ys=>
    match P.underlying f.type with
    | some (.int _)=>if k = k'∧f.name ≠ "_"∧f.offset = i then (O9 P (i + 1) fs xs ys).map fun r=>(a == b) && r else none
    |_=>none
  |_,_,_,_=>none
def Jr(P:Program)(T:TypeId)(op:BinOp)(xs ys:List AV):Option AV:=
  if P.stoodInHeld T=false∧P.eqGuardType P.depth T=false then
    match P.underlying T with
    |some (.struct fs)=>match O9 P 0 fs.toList xs ys with |some b=>sE op b|none=>none
    |_=>none
  else none
def iZ(P:Program)(t:TypeId):Bool:=match P.underlying t with |some (.slice _)=>true|_=>false
def qI(P:Program)(t:TypeId):Bool:=match P.underlying t with |some (.pointer _)=>true|_=>false
def nJ(P:Program)(op:BinOp)(T:TypeId):AV->AV->Option AV
  |.v (.int k a),.v (.int k' b)=>
    match op with
    |.shl=>ashift .shl k a b
    |.shr=>ashift .shr k a b
    |op=>if k=k' then lH op k a b else none
  |.v (.bool a),.v (.bool b)=>Bg P T op a b
  |.v (.string a),.v (.string b)=>CK op a b
  |.v (.slice none _ _),.v (.slice none _ _)=>if iZ P T=true then sE op true else none
  |.sl _ n _ sp,.v (.slice none _ _)=>if iZ P T=true∧¬(n=0∧sp.isAny=true) then sE op false else none
  |.jd _ _ _ _ _,.v (.slice none _ _)=>if iZ P T=true then sE op false else none
  |.v (.pointer none),.v (.pointer none)=>if qI P T=true then sE op true else none
  |.ptr _ _,.v (.pointer none)=>if qI P T=true then sE op false else none
  |.v (.pointer none),.ptr _ _=>if qI P T=true then sE op false else none
  |.agg xs,.agg ys=>Jr P T op xs ys
  |_,_=>none
def L6(op:UnOp):AV->Option AV
  |.v (.int k n)=>
    match op with
    |.neg=>some (.v (.int k (Jq k n)))
    |.xor=>some (.v (.int k (Q9 k n)))
    |_=>none
  |.v (.bool b)=>match op with |.not=>some (.v (.bool !b))|_=>none
  |_=>none
def aconv(P:Program)(src dst:TypeId)(x:AV):Option AV:=
  match P.underlying src,P.underlying dst,x with
  |some (.int _),some (.int k),.v (.int _ n)=>some (.v (.int k (gq k n)))
  |some .string,some .string,.v (.string s)=>some (.v (.string s))
  |some (.slice e),some .string,.sl sz _ cs _=>
    match P.underlying e with
    |some (.int .u8)=>if sz=1∧cs.all isByte=true then some (.v (.string (p8 cs))) else none
    |_=>none
  |some (.slice e),some .string,.v (.slice none _ _)=>
    match P.underlying e with
    |some (.int .u8)=>some (.v (.string .empty))
    |_=>none
  |some .string,some (.slice e),.v (.string s)=>
    match P.underlying e with
    |some (.int .u8)=>some (.sl 1 s.size (s.data.toList.map cU) .no)
    |_=>none
  |some (.slice _),some (.slice e),.sl sz n cs .new=>
    match P.underlying e with
    |some (.int .u8)=>if src=dst then some (.sl sz n cs .new) else none
    |_=>none
  |_,_,_=>none
def aindexAddr(P:Program)(T:TypeId)(x i:AV):Option AV:=
  match P.underlying T,x,i with
  |some (.slice e),.sl sz n cs _,.v (.int _ j)=>
    if 0<=j∧j<n∧P.cellsOf e=sz∧sz≠0 then some (.ij ((cs.drop (j.toNat*sz)).take sz)) else none
  |some (.slice e),.jd o off sz n _,.v (.int _ j)=>
    if 0<=j∧j<n∧P.cellsOf e=sz∧sz≠0 then some (.ptr o (off+j.toNat*sz)) else none
  |some (.array n e),.ptr o off,.v (.int _ j)=>
    if 0<=j∧j<n∧P.cellsOf e≠0 then some (.ptr o (off+j.toNat*P.cellsOf e)) else none
  |some (.array n e),.ij cs,.v (.int _ j)=>
    if 0<=j∧j<n∧P.cellsOf e≠0 then some (.ij (cs.drop (j.toNat*P.cellsOf e))) else none
  |_,_,_=>none
def aindex(P:Program)(T:TypeId)(x i:AV):Option AV:=
  match P.underlying T,x,i with
  |some (.array n e),.agg cs,.v (.int _ j)=>
    if 0<=j∧j<n∧P.cellsOf e≠0 then apart P e cs (j.toNat*P.cellsOf e) else none
  |some .string,.v (.string s),.v (.int _ j)=>
    if 0<=j then(match s[j.toNat]? with |some b=>some (cU b)|none=>none) else none
  |_,_,_=>none
def jk(d:Int):Option AV->Option Int
  |none=>some d
  |some (.v (.int _ j))=>some j
  |_=>none
def aslice(P:Program)(T:TypeId)(x:AV)(lo hi mx:Option AV):Option AV:=
  match P.underlying T,x with
  |some (.slice e),.sl sz n cs sp=>
    match jk 0 lo,jk n hi,jk n mx with
    |some l,some h,some m=>
      if 0<=l∧l<=h∧h<=n∧(mx.isSome=true->h=m)∧(mx.isSome=true->hi.isSome=true)∧P.cellsOf e=sz∧sz≠0 then
        some (.sl sz (h.toNat-l.toNat) ((cs.take (h.toNat*sz)).drop (l.toNat*sz))
          (match sp with
            |.any=>.any
            |.no=>if mx.isSome=true then .full else .no
            |.full=>if mx.isSome=true then .full else if h=n then .full else .no
            |.new=>if mx.isSome=true then .full else if h=n then .new else .no
            |.own t g=>if mx.isSome=true then .full else if h=n then(if l=0 then .own t g else .no) else .no))
      else none
    |_,_,_=>none
  |some (.slice e),.v (.slice none 0 0)=>
    match jk 0 lo,jk 0 hi,jk 0 mx with
    |some l,some h,some m=>if l=0∧h=0∧m=0∧P.cellsOf e≠0∧(mx.isSome=true->hi.isSome=true) then some (.v (.slice none 0 0)) else none
    |_,_,_=>none
  |some (.slice e),.jd o off sz n cap=>
    match jk 0 lo,jk n hi,mx with
    |some l,some h,none=>
      if 0<=l∧l<=h∧h<=cap∧P.cellsOf e=sz∧sz≠0 then
        some (.jd o (if(cap:Int)=l then off else off+l.toNat*sz) sz (h.toNat-l.toNat) (cap-l.toNat))
      else none
    |_,_,_=>none
  |some (.array n e),.ptr o off=>
    match jk 0 lo,jk n hi,mx with
    |some l,some h,none=>
      if 0<=l∧l<=h∧h<=n∧P.cellsOf e≠0 then
        some (.jd o (if(n:Int)=l then off else off+l.toNat*P.cellsOf e) (P.cellsOf e) (h.toNat-l.toNat) (n-l.toNat))
      else none
    |_,_,_=>none
  |some .string,.v (.string s)=>
    match jk 0 lo,jk s.size hi,mx with
    |some l,some h,none=>if 0<=l∧l<=h∧h<=s.size then some (.v (.string (s.extract l.toNat h.toNat))) else none
    |_,_,_=>none
  |_,_=>none
def abuiltin(P:Program)(b:Builtin)(argTypes:Array TypeId)(args:List AV):Option AV:=
  match b,args with
  |.len,[x]=>
    match(argTypes[0]?).bind P.underlying,x with
    |some (.slice _),.sl _ n _ _=>some (.v (.int .i64 n))
    |some (.slice _),.jd _ _ _ n _=>some (.v (.int .i64 n))
    |some (.slice _),.v (.slice none n _)=>some (.v (.int .i64 n))
    |some .string,.v (.string s)=>some (.v (.int .i64 s.size))
    |some (.array n _),_=>some (.v (.int .i64 n))
    |_,_=>none
  |.cap,[x]=>
    match(argTypes[0]?).bind P.underlying,x with
    |some (.slice _),.jd _ _ _ _ c=>some (.v (.int .i64 c))
    |some (.slice _),.v (.slice none _ c)=>some (.v (.int .i64 c))
    |some (.slice _),.sl _ n _ .full=>some (.v (.int .i64 n))
    |some (.slice _),.sl _ n _ .new=>some (.v (.int .i64 n))
    |_,_=>none
  |.min,[.v (.int k x),.v (.int k' y)]=>if k=k' then some (.v (.int k (if y<x then y else x))) else none
  |.max,[.v (.int k x),.v (.int k' y)]=>if k=k' then some (.v (.int k (if y>x then y else x))) else none
  |_,_=>none
def gG(P:Program)(ρ:Operand->AV):Op->Option AV
  |.move x=>some (ρ x)
  |.assign x=>some (ρ x)
  |.pick c a b=>match ρ c with |.v (.bool t)=>some (if t=true then ρ a else ρ b)|_=>none
  |.binOp op T x y _=>nJ P op T (ρ x) (ρ y)
  |.unOp op _ x=>L6 op (ρ x)
  |.convert src dst x=>aconv P src dst (ρ x)
  |.nilCheck x=>
    match ρ x with
    |.ptr o off=>some (.ptr o off)
    |.ij cs=>some (.ij cs)
    |.wm f cs=>some (.wm f cs)
    |.v (.func (.func f) a b)=>some (.v (.func (.func f) a b))
    |_=>none
  |.fieldAddr S x i=>
    match fk P S i with
    |some (off,T)=>
      if P.cellsOf T=0 then none else
      match ρ x with
      |.ptr o a=>some (.ptr o (a+off))
      |.ij cs=>some (.ij (cs.drop off))
      |_=>none
    |none=>none
  |.field S x i=>
    match fk P S i,ρ x with
    |some (off,T),.agg cs=>if P.cellsOf T=0 then none else apart P T cs off
    |_,_=>none
  |.indexAddr T x i=>aindexAddr P T (ρ x) (ρ i)
  |.index T x i=>aindex P T (ρ x) (ρ i)
  |.load T x=>match ρ x with |.ij cs=>if P.cellsOf T=0 then none else tY P T cs|_=>none
  |.slice T x lo hi mx=>aslice P T (ρ x) (lo.map ρ) (hi.map ρ) (mx.map ρ)
  |.extract t i=>match ρ t with |.ka cs=>cs[i]? |_=>none
  |.build T parts=>
    match P.underlying T,eO P T with
    |some (.struct _),some z=>
      if kf P T=true then(ov (placeOf P T) z (parts.toList.map fun p=>(p.1,ρ p.2))).map .agg else none
    |some (.array _ e),some z=>
      if P.cellsOf e=0 then none else(ov (fun i=>some (i*P.cellsOf e,P.cellsOf e)) z (parts.toList.map fun p=>(p.1,ρ p.2))).map .agg
    |_,_=>none
  |.buildSlice T len parts=>
    match P.underlying T with
    |some (.slice e)=>
      match eO P e with
      |some z=>
        if P.cellsOf e=0∨len*P.cellsOf e>2^24∨z.length≠P.cellsOf e then none else
        (ov (fun i=>some (i*P.cellsOf e,P.cellsOf e)) (rF (len*P.cellsOf e) z) (parts.toList.map fun p=>(p.1,ρ p.2))).map
          fun cs=>.sl (P.cellsOf e) len cs .new
      |none=>none
    |_=>none
  |.makeFunc (.func f) first captured=>if first.isEmpty=true then some (.wm f (captured.toList.map ρ)) else none
  |.call {callee:=.builtin b,args,argTypes}=>abuiltin P b argTypes (args.toList.map ρ)
  |_=>none
end Go.AM
namespace Go.AM
open Go Go.RowKit
variable{P:Program}{Γ:Nat->List AV}{G:Gh}{s:AS}{w:World}
theorem la{t:TypeId}(h:P.cellsOf t≠0):∃i,P.info? t=some i:=by
  cases hi:P.info? t with
  |some i=>exact⟨i,rfl⟩
  |none=>simp[Program.cellsOf,hi] at h
theorem eu{t:TypeId}(h:P.cellsOf t≠0)(w:World):(sizeOf t).run P w=.ok (P.cellsOf t) w:=by
  obtain⟨i,hi⟩:=la h;simp[sizeOf,typeInfo,hi,Program.cellsOf]
theorem BZ{t:TypeId}(h:(P.info? t).isSome=true)(w:World):(sizeOf t).run P w=.ok (P.cellsOf t) w:=by
  obtain⟨i,hi⟩:=Option.isSome_iff_exists.1 h;simp[sizeOf,typeInfo,hi,Program.cellsOf]
theorem tb{t:TypeId}{b:Bool}(h:fC P t=some b)(w:World):(isAgg t).run P w=.ok b w:=by
  unfold fC at h;cases hu:P.underlying t with
  |none=>simp[hu] at h
  |some d=>cases d<;>simp[hu] at h<;>simp[isAgg,run_underlying hu,<-h]
theorem gI(b o j:Nat):(⟨b,o,none⟩:Addr).add j=⟨b,o+j,none⟩:=by unfold Addr.add;split <;>simp_all
theorem eo.xfl(h:eo Γ G s w){b off:Nat}{vs:List Value}(k:mT G b off vs):∀(j:Nat)(u:Value),vs[j]? =some u->w.cell? ((⟨b,off,none⟩:Addr).add j)=some u:=by
  intro j u hj;rw[gI];exact h.ro _ _ _ (k j u hj)
theorem tc{t:TypeId}{b off:Nat}{cs:List AV}{vs:List Value}{r:AV}(hl:tY P t cs=some r)(hz:P.cellsOf t≠0)(hv:dP G cs vs)
    (hc:∀(j:Nat)(u:Value),vs[j]? =some u->w.cell? ((⟨b,off,none⟩:Addr).add j)=some u):
    ∃v,(loadVar t ⟨b,off,none⟩).run P w=.ok v w∧dQ G r v:=by
  unfold tY at hl;cases hA:fC P t with
  |none=>simp[hA] at hl
  |some b0=>
    cases b0 with
    |true=>
      simp only[hA] at hl;split at hl
      · rename_i hle;simp at hl;subst hl;have hlen:=hv.length;refine⟨.agg (vs.take (P.cellsOf t)).toArray,?_,by simp only[dQ];exact⟨_,rfl,hv.take _⟩⟩;simp only[loadVar,bo,tb hA,aM,if_true,eu hz];have:=run_loadCells_list (P:=P) w ⟨b,off,none⟩ (vs.take (P.cellsOf t)) (fun j u hj=>hc j u (by
          rw[aF] at hj;split at hj
          · exact hj
          · cases hj))
        have CM:(vs.take (P.cellsOf t)).length=P.cellsOf t:=(by simp;omega);rw[CM] at this;simp[this]
      · cases hl
    |false=>
      simp only[hA] at hl;obtain⟨u,h1,h2⟩:=hv.get 0 r hl;refine⟨u,?_,h2⟩;have:=hc 0 u h1;simp only[Addr.add_zero'] at this;simp[loadVar,tb hA,this]
theorem qJ{r:AV}{v:Value}(h:dQ G r v):dP G r.cells v.cells.toList:=by
  cases r with
  |agg cs=>
    simp only[dQ] at h;obtain⟨vs,rfl,h2⟩:=h;simpa[AV.cells,dg] using h2
  |v x=>
    simp only[dQ] at h;subst h;cases v<;>first
      |(simp only[AV.cells,dg,dP];exact⟨_,[],rfl,by simp[dQ],rfl⟩)
      |(simp only[AV.cells,dg];exact dP.Jo _)
  |sl sz n cs sp=>
    have h':=h;simp only[dQ] at h';rcases h' with⟨b,off,cap,vs,rfl,_⟩|⟨rfl,rfl,a,cap,rfl,_⟩|⟨rfl,rfl,rfl,rfl⟩<;>
      (simp only[AV.cells,dg,dP];exact⟨_,[],rfl,h,rfl⟩)
  |ij cs=>
    have h':=h;simp only[dQ] at h';obtain⟨b,off,vs,rfl,_⟩:=h';simp only[AV.cells,dg,dP];exact⟨_,[],rfl,h,rfl⟩
  |ptr o off=>
    have h':=h;simp only[dQ] at h';obtain⟨b,_,rfl⟩:=h';simp only[AV.cells,dg,dP];exact⟨_,[],rfl,h,rfl⟩
  |jd o off sz n cap=>
    have h':=h;simp only[dQ] at h';obtain⟨b,_,rfl,_⟩:=h';simp only[AV.cells,dg,dP];exact⟨_,[],rfl,h,rfl⟩
  |ka cs=>
    have h':=h;simp only[dQ] at h';obtain⟨vs,rfl,_⟩:=h';simp only[AV.cells,dg,dP];exact⟨_,[],rfl,h,rfl⟩
  |wm f cs=>
    have h':=h;simp only[dQ] at h';obtain⟨vs,rfl,_⟩:=h';simp only[AV.cells,dg,dP];exact⟨_,[],rfl,h,rfl⟩
theorem F6{t:TypeId}{cs:List AV}{vs:List Value}{off:Nat}{r:AV}(h:apart P t cs off=some r)(hz:P.cellsOf t≠0)(hv:dP G cs vs):
    ∃v,(part t vs.toArray off).run P w=.ok v w∧dQ G r v:=by
  unfold apart at h;cases hA:fC P t with
  |none=>simp[hA] at h
  |some b0=>
    cases b0 with
    |true=>
      simp only[hA] at h;simp at h;subst h;refine⟨.agg ((vs.drop off).take (P.cellsOf t)).toArray,?_,by simp only[dQ];exact⟨_,rfl,(hv.drop _).take _⟩⟩;simp only[part,bo,tb hA,aM,if_true,eu hz];simp[List.extract_eq_take_drop]
    |false=>
      simp only[hA] at h;obtain⟨u,h1,h2⟩:=hv.get off r h;refine⟨u,?_,h2⟩;simp[part,tb hA,h1]
def Js(Γ:Nat->List AV)(G:Gh)(s:AS)(r:AV)(R:Result Next):Prop:=
  ∃G' v w',R=.ok (.value v) w'∧G.le G'∧eo Γ G' s w'∧dQ G' r v
theorem Js.same{r:AV}{v:Value}{R:Result Next}(hs:eo Γ G s w)(h1:R=.ok (.value v) w)(h2:dQ G r v):Js Γ G s r R:=
  ⟨G,v,w,h1,.refl G,hs,h2⟩
section binops
theorem Pb(op:BinOp)(k:IntKind)(a b:Int)(r:AV)(h:lH op k a b=some r)(T:TypeId)(gP:op≠.shl∧op≠.shr):
    ∃v,(binOp op T (.int k a) (.int k b)).run P w=.ok v w∧dQ G r v:=by
  cases op<;>simp[lH] at h gP<;>first
    |(subst h;exact⟨_,by simp[binOp,Op.intArith,Op.intBits,Op.intCmp];rfl,by simp[dQ,iY,gR,mF,rG,L5,BX,Oe]⟩)
    |(obtain⟨h1,h2⟩:=h;subst h2;exact⟨_,by simp[binOp,Op.intDiv,h1];rfl,by simp[dQ,nn,mG]⟩)
theorem Bh(op:BinOp)(k k':IntKind)(a b:Int)(r:AV)(h:ashift op k a b=some r)(T:TypeId):
    ∃v,(binOp op T (.int k a) (.int k' b)).run P w=.ok v w∧dQ G r v:=by
  unfold ashift at h;split at h
  · cases h
  · rename_i hb;cases op<;>simp at h<;>
      (subst h;exact⟨_,by simp only[binOp,Op.shift];rw[if_neg hb];rfl,by simp[dQ,oo,kE]⟩)
end binops
theorem Jt(op:BinOp)(t:TypeId)(x y:Operand)(k k':IntKind)(a b:Int)(w:World):(eqGuard op t x y (.int k a) (.int k' b)).run P w=.ok () w:=by
  cases op<;>simp[eqGuard]
theorem Hc(op:BinOp)(t:TypeId)(x y:Operand)(a b:Bool)(w:World):(eqGuard op t x y (.bool a) (.bool b)).run P w=.ok () w:=by
  cases op<;>simp[eqGuard]
theorem CN(op:BinOp)(t:TypeId)(x y:Operand)(a b:ByteArray)(w:World):(eqGuard op t x y (.string a) (.string b)).run P w=.ok () w:=by
  cases op<;>simp[eqGuard]
theorem oW(op:BinOp)(t:TypeId)(x y:Operand)(a b:Option Addr)(n c n' c':Nat)(w:World):(eqGuard op t x y (.slice a n c) (.slice b n' c')).run P w=.ok () w:=by
  cases op<;>simp[eqGuard]
theorem pI(op:BinOp)(t:TypeId)(x y:Operand)(a b:Option Addr)(w:World):(eqGuard op t x y (.pointer a) (.pointer b)).run P w=.ok () w:=by
  cases op<;>simp[eqGuard]
theorem Pf(op:BinOp)(x y:ByteArray)(r:AV)(h:CK op x y=some r)(T:TypeId):
    ∃v,(binOp op T (.string x) (.string y)).run P w=.ok v w∧dQ G r v:=by
  cases op<;>simp[CK] at h;case add=>
    obtain⟨h1,h2⟩:=h;subst h2;refine⟨_,?_,by simp[dQ];rfl⟩;have :¬(((x.size+y.size:Nat):Int)>c9.max):=by
      have e:c9.max=9223372036854775807:=rfl;rw[e];push_cast;omega
    simp only[binOp,Op.stringOp];rw[if_neg this];rfl
  all_goals(subst h;exact⟨_,by simp[binOp,Op.stringOp];rfl,by simp[dQ]⟩)
theorem nK{T:TypeId}{x y:Value}{r:Result Bool}(h:∀d,(dL (d+1) T x y).run P w=r):(Op.equal T x y).run P w=r:=h 9999
theorem tZ{T:TypeId}(hT:iZ P T=true)(a b:Option Addr)(n c n' c':Nat)(Bi:a=none∨b=none):
    (Op.equal T (.slice a n c) (.slice b n' c')).run P w=.ok (a.isNone&&b.isNone) w:=by
  unfold iZ at hT;cases hu:P.underlying T with
  |none=>simp[hu] at hT
  |some d=>
    cases d<;>simp[hu] at hT;refine nK fun d=>?_;rcases Bi with rfl|rfl
    · cases b<;>simp[dL,run_underlying hu]
    · cases a<;>simp[dL,run_underlying hu]
theorem wz{T:TypeId}(hT:qI P T=true)(a:Option Addr):
    (Op.equal T (.pointer a) (.pointer none)).run P w=.ok a.isNone w:=by
  unfold qI at hT;cases hu:P.underlying T with
  |none=>simp[hu] at hT
  |some d=>
    cases d<;>simp[hu] at hT;refine nK fun d=>?_;cases a<;>simp[dL,run_underlying hu]
theorem p9{op:BinOp}{T:TypeId}{a b:Option Addr}{n c n' c':Nat}{r:AV}{t:Bool}(hT:iZ P T=true)(h:sE op t=some r)
    (Bi:a=none∨b=none) (ht:(a.isNone&&b.isNone)=t):
    ∃v,(binOp op T (.slice a n c) (.slice b n' c')).run P w=.ok v w∧dQ G r v:=by
  cases op<;>simp[sE] at h<;>subst h
  · exact⟨.bool t,by simp[binOp,tZ hT a b n c n' c' Bi,ht],by simp[dQ]⟩
  · exact⟨.bool !t,by simp[binOp,tZ hT a b n c n' c' Bi,<-ht],by simp[dQ]⟩
theorem CO{op:BinOp}{T:TypeId}{a:Option Addr}{r:AV}{t:Bool}(hT:qI P T=true)(h:sE op t=some r)(Bi:a.isNone=t):
    ∃v,(binOp op T (.pointer a) (.pointer none)).run P w=.ok v w∧dQ G r v:=by
  cases op<;>simp[sE] at h<;>subst h
  · exact⟨.bool t,by simp[binOp,wz hT a,Bi],by simp[dQ]⟩
  · exact⟨.bool !t,by simp[binOp,wz hT a,Bi],by simp[dQ]⟩
theorem uV{T:TypeId}(hT:qI P T=true)(a:Option Addr):
    (Op.equal T (.pointer none) (.pointer a)).run P w=.ok a.isNone w:=by
  unfold qI at hT;cases hu:P.underlying T with
  |none=>simp[hu] at hT
  |some d=>
    cases d<;>simp[hu] at hT;refine nK fun d=>?_;cases a<;>simp[dL,run_underlying hu]
theorem Ju{op:BinOp}{T:TypeId}{a:Option Addr}{r:AV}{t:Bool}(hT:qI P T=true)(h:sE op t=some r)(Bi:a.isNone=t):
    ∃v,(binOp op T (.pointer none) (.pointer a)).run P w=.ok v w∧dQ G r v:=by
  cases op<;>simp[sE] at h<;>subst h
  · exact⟨.bool t,by simp[binOp,uV hT a,Bi],by simp[dQ]⟩
  · exact⟨.bool !t,by simp[binOp,uV hT a,Bi],by simp[dQ]⟩
theorem yj{d:Nat}{XU XV:Array Value}:∀(fs:List Field)(i:Nat)(as bs:List AV)(us vs:List Value)(b:Bool),O9 P i fs as bs=some b->dP G as us->dP G bs vs->(∀j u,us[j]? =some u->XU[i+j]? =some u)->(∀j u,vs[j]? =some u->XV[i+j]? =some u)->
    (Op.eqFields (d+1) XU XV fs).run P w=.ok b w
  |[],i,as,bs,us,vs,b,h,_,_,_,_=>by
    simp only[O9,aU] at h;subst h;simp[Op.eqFields]
  |f::fs,i,as,bs,us,vs,b,h,hu,hv,h1,h2=>by
    unfold O9 at h;split at h
    · rename_i e;cases e
    · rename_i i _ _ _ _ f' fs' k a as' k' c bs' e;cases e;simp only[dP,dQ] at hu hv;obtain⟨_,BW,rfl,rfl,hu⟩:=hu;obtain⟨_,UF,rfl,rfl,hv⟩:=hv;split at h
      · rename_i k0 hT;split at h
        · rename_i hc;obtain⟨rfl,hn,ho⟩:=hc;cases hr:O9 P (i+1) fs as' bs' with
          |none=>rw[hr] at h;cases h
          |some r=>
            rw[hr] at h;simp only[cl,aU] at h;subst h;have ih:=yj (d:=d) (XU:=XU) (XV:=XV) fs (i+1) as' bs' BW UF r hr hu hv (fun j u q=>by rw[cK,Nat.add_comm 1];exact h1 (j+1) u (by simpa using q)) (fun j u q=>by rw[cK,Nat.add_comm 1];exact h2 (j+1) u (by simpa using q));have g1:=h1 0 _ rfl;have g2:=h2 0 _ rfl;simp only[Nat.add_zero] at g1 g2;simp only[Op.eqFields,hn,ne_eq,not_false_eq_true,if_true,bo,ho];have p1:(part f.type XU i).run P w=.ok (.int k a) w:=(by simp[part,isAgg,run_underlying hT,g1]);have p2:(part f.type XV i).run P w=.ok (.int k c) w:=(by simp[part,isAgg,run_underlying hT,g2]);rw[p1,aM,p2,aM,run_equalIn_int w d f.type k k0 a c hT,aM];cases hac:(a==c)
            · simp
            · simpa using ih
        · cases h
      · cases h
    · cases h
theorem Ra{op:BinOp}{T:TypeId}{xs ys:List AV}{us vs:List Value}{r:AV}(ox oy:Operand)(h:Jr P T op xs ys=some r)(hx:dP G xs us)(hy:dP G ys vs):
    (eqGuard op T ox oy (.agg us.toArray) (.agg vs.toArray)).run P w=.ok () w∧∃z,(binOp op T (.agg us.toArray) (.agg vs.toArray)).run P w=.ok z w∧dQ G r z:=by
  unfold Jr at h;split at h
  · rename_i hc;refine⟨run_eqGuard_agg w op T ox oy _ _ hc.2,?_⟩;split at h
    · rename_i fs hT;split at h
      · rename_i b hb;have hf:P.fieldsOf T=fs:=(by simp[Program.fieldsOf,hT]);have hq:(dL 10000 T (.agg us.toArray) (.agg vs.toArray)).run P w=.ok b w:=by
          rw[run_equalIn_struct w 9999 T _ _ (by rw[hf];exact hT) hc.1,hf];exact yj (d:=9998) fs.toList 0 xs ys us vs b hb hx hy (fun j u q=>by simpa using q) (fun j u q=>by simpa using q)
        cases op<;>simp[sE] at h<;>subst h
        · exact⟨.bool b,by rw[run_eql_struct,hq];rfl,by simp[dQ]⟩
        · exact⟨.bool !b,by rw[run_neq_struct,hq];rfl,by simp[dQ]⟩
      · cases h
    · cases h
  · cases h
theorem Rb{op:BinOp}{T:TypeId}{x y:AV}{u v:Value}{r:AV}(ox oy:Operand)(h:nJ P op T x y=some r)(hx:dQ G x u)(hy:dQ G y v):
    (eqGuard op T ox oy u v).run P w=.ok () w∧∃z,(binOp op T u v).run P w=.ok z w∧dQ G r z:=by
  unfold nJ at h;split at h
  · rename_i k a k' b;simp only[dQ] at hx hy;subst hx hy;refine⟨Jt ..,?_⟩;split at h
    · exact Bh _ _ _ _ _ _ h T
    · exact Bh _ _ _ _ _ _ h T
    · rename_i op h1 h2;split at h
      · rename_i hk;subst hk;exact Pb _ _ _ _ _ h T ⟨h1,h2⟩
      · cases h
  · rename_i a b;simp only[dQ] at hx hy;subst hx hy;refine⟨Hc ..,?_⟩;unfold Bg at h;split at h
    · rename_i hu;simp at h;subst h;exact⟨_,by simp only[binOp,bo,nK (P:=P) (w:=w) (T:=T) (x:=.bool a) (y:=.bool b) (r:=.ok (a==b) w) (fun d=>by simp[dL,run_underlying hu])];rfl,by simp[dQ]⟩
    · rename_i hu;simp at h;subst h;exact⟨_,by simp only[binOp,bo,nK (P:=P) (w:=w) (T:=T) (x:=.bool a) (y:=.bool b) (r:=.ok (a==b) w) (fun d=>by simp[dL,run_underlying hu])];rfl,by simp[dQ]⟩
    · cases h
  · simp only[dQ] at hx hy;subst hx hy;exact⟨CN ..,Pf _ _ _ _ h T⟩
  · simp only[dQ] at hx hy;subst hx hy;split at h
    · rename_i hT;exact⟨oW ..,p9 hT h (.inl rfl) rfl⟩
    · cases h
  · simp only[dQ] at hx hy;subst hy;rcases hx with⟨b,off,cap,vs,rfl,_⟩|⟨rfl,rfl,a,cap,rfl,_⟩|⟨rfl,rfl,rfl,rfl⟩
    · split at h
      · rename_i hT;exact⟨oW ..,p9 hT.1 h (.inr rfl) rfl⟩
      · cases h
    · split at h
      · rename_i hT;exact⟨oW ..,p9 hT.1 h (.inr rfl) rfl⟩
      · cases h
    · rw[if_neg (by simp[Sp.isAny])] at h;cases h
  · simp only[dQ] at hx hy;obtain⟨b,_,rfl,_⟩:=hx;subst hy;split at h
    · rename_i hT;exact⟨oW ..,p9 hT h (.inr rfl) rfl⟩
    · cases h
  · simp only[dQ] at hx hy;subst hx hy;split at h
    · rename_i hT;exact⟨pI ..,CO hT h rfl⟩
    · cases h
  · simp only[dQ] at hx hy;obtain⟨b,_,rfl⟩:=hx;subst hy;split at h
    · rename_i hT;exact⟨pI ..,CO hT h rfl⟩
    · cases h
  · simp only[dQ] at hx hy;obtain⟨b,_,rfl⟩:=hy;subst hx;split at h
    · rename_i hT;exact⟨pI ..,Ju hT h rfl⟩
    · cases h
  · simp only[dQ] at hx hy;obtain⟨us,rfl,hx⟩:=hx;obtain⟨vs,rfl,hy⟩:=hy;exact Ra ox oy h hx hy
  · cases h
theorem U1{op:UnOp}{x:AV}{u:Value}{r:AV}(h:L6 op x=some r)(hx:dQ G x u):∃z,(Op.unary op u).run P w=.ok z w∧dQ G r z:=by
  unfold L6 at h;split at h
  · simp only[dQ] at hx;subst hx;cases op<;>simp at h<;>subst h
    · exact⟨_,by simp[Op.unary,Op.intArith];rfl,by simp[dQ,Jq]⟩
    · exact⟨_,by simp only[Op.unary,Op.intBits];rfl,by simp[dQ,Q9]⟩
  · simp only[dQ] at hx;subst hx;cases op<;>simp at h;subst h;exact⟨_,by simp[Op.unary];rfl,by simp[dQ]⟩
  · cases h
theorem uW:∀{cs:List AV}{vs:List Value},dP G cs vs->cs.all isByte=true->
    ∃xs:List Int,vs=xs.map (dw .u8)∧cs.map byteOf=xs.map (fun n=>az n.toNat)
  |[],vs,h,_=>by simp only[dP] at h;subst h;exact⟨[],rfl,rfl⟩
  |c::cs,vs,h,ha=>by
    simp only[dP] at h;obtain⟨u,us,rfl,h2,h3⟩:=h;simp only[List.all_cons,aw] at ha;obtain⟨xs,rfl,h5⟩:=uW h3 ha.2;have h1:=ha.1;unfold isByte at h1;split at h1
    · rename_i n;simp only[dQ] at h2;subst h2;exact⟨n::xs,rfl,by simp[byteOf,h5]⟩
    · cases h1
theorem eo.Hd{w':World}(h:eo Γ G s w)(hc:∀b j,w'.cell? ⟨b,j,none⟩=w.cell? ⟨b,j,none⟩)
    (hf:∀b j,Kn G s b->w.cell? ⟨b,j,none⟩≠none->w'.frozen? ⟨b,j,none⟩=w.frozen? ⟨b,j,none⟩)
    (kv:w.heap.size=w'.heap.size) (hb:Below G.B w w') (LC:iA G.w0 w') (xbj:O6 (Kn G s) w'):eo Γ G s w' where
  ro b j u hu:=by rw[hc];exact h.ro b j u hu
  dD o cs ho:=by
    obtain⟨b,vs,h1,h2,h3,h4⟩:=h.dD o cs ho;refine⟨b,vs,h1,h2,h3,fun j u hu=>?_⟩;obtain⟨k1,k2,k3⟩:=h4 j u hu;exact⟨by rw[hc];exact k1,by rw[hf b j (.inl ⟨o,h1⟩) (by rw[k1];simp)];exact k2,k3⟩
  ib o b hb:=by rw[<-kv];exact h.ib o b hb
  inj:=h.inj;own t e he:=by
    obtain⟨b,st,en,h1,h2,h3,h4,h5,h6⟩:=h.own t e he;refine⟨b,st,en,h1,h2,h3,fun j hj nH=>?_,h5,oM⟩;obtain⟨⟨u,k1⟩,k2,k3⟩:=h4 j hj nH;exact⟨⟨u,by rw[hc];exact k1⟩,by rw[hf b j (.inr ⟨t,e,_,he,h1⟩) (by rw[k1];simp)];exact k2,k3⟩
  gM:=h.gM;fL:=h.fL;gF:=h.gF;fW:=h.fW;below:=h.below.trans hb;others:=LC;base:=by have:=h.base;omega
  nE:=h.nE;soft:=xbj
theorem Bj(w:World)(a:Addr)(n b j:Nat):(w.freeze a n).cell? ⟨b,j,none⟩=w.cell? ⟨b,j,none⟩:=by
  unfold dC;split
  · rfl
  · simp only[World.cell?,cr];by_cases hb:a.block=b
    · simp only[hb,if_true];cases hh:w.heap[b]? with
      |none=>simp
      |some x=>cases x<;>simp
    · simp[hb]
theorem pX(w:World)(a:Addr)(n b j:Nat)(h:a.block≠b):(w.freeze a n).frozen? ⟨b,j,none⟩=w.frozen? ⟨b,j,none⟩:=by
  unfold dC;split
  · rfl
  · simp only[World.frozen?,cr];rw[if_neg h]
theorem yl(w:World)(c:Array Value)(T:TypeId)(j:Nat)(hj:j<c.size):
    ((w.alloc (.cells c T)).freeze ⟨w.heap.size,c.size,none⟩ 1).frozen? ⟨w.heap.size,j,none⟩=false:=by
  unfold dC;rw[if_neg oM];simp only[World.frozen?,cr,if_true];have :(w.alloc (.cells c T)).heap[w.heap.size]? =some (.cells c T):=by
    show(w.heap.push _)[w.heap.size]? =_;rw[dK]
  rw[this];simp;omega
theorem Bk(w:World)(a:Addr)(n:Nat):(w.freeze a n).heap.size=w.heap.size:=by
  unfold dC;split <;>simp
theorem ym{B:Nat}(w:World)(a:Addr)(n:Nat)(h:B<=a.block):Below B w (w.freeze a n):=by
  unfold dC;split
  · exact Below.refl _ _
  · refine⟨rfl,rfl,rfl,sM,fun k hk=>?_⟩;rw[cr,if_neg oM]
theorem Bl{K:Nat->Prop}{w:World}(h:O6 K w){b n:Nat}(hn:∀c T fr,w.heap[b]? =some (.cells c T fr)->c.size<=n):
    ∀b' c T lo hi,K b'->(w.freeze ⟨b,n,none⟩ 1).heap[b']? =some (.cells c T (lo,hi))->lo=hi∨c.size<=lo:=by
  intro b' c T lo hi hB hc;unfold dC at hc;rw[if_neg oM] at hc;simp only[cr] at hc;split at hc
  · rename_i ES;cases hh:w.heap[b']? with
    |none=>simp[hh] at hc
    |some o=>
      simp only[hh,cl,aU] at hc;cases o with
      |cells c' T' fr=>
        obtain⟨YF,et⟩:=fr;simp only[Obj.cells.injEq] at hc;obtain⟨rfl,rfl,h3⟩:=hc;have h1:=h b' c' T' YF et hB hh;have h2:=hn c' T' _ (ES ▸ hh);split at h3
        · simp only[Prod.mk.injEq] at h3;obtain⟨rfl,rfl⟩:=h3;exact .inr h2
        · rename_i gP;simp only[beq_iff_eq] at gP;simp only[Prod.mk.injEq] at h3;obtain⟨rfl,rfl⟩:=h3;have :c'.size<=YF:=h1.resolve_left gP;exact .inr oM
      |_=>cases hc
  · exact h b' c T lo hi hB hc
theorem eo.U3(h:eo Γ G s w){b off:Nat}(hB:G.B<=b):∃w',(markStringish ⟨b,off,none⟩).run P w=.ok () w'∧eo Γ G s w':=by
  cases hh:w.heap[b]? with
  |none=>exact⟨w,by simp[markStringish,run_shape,World.shape?,hh],h⟩
  |some o=>
    cases o with
    |cells c T fr=>
      obtain⟨lo,hi⟩:=fr;refine⟨w.freeze ⟨b,c.size,none⟩ 1,by simp[markStringish,run_shape,World.shape?,hh],?_⟩;have hs:=fun hk=>h.soft b c T lo hi hk hh;refine h.Hd (fun b j=>Bj ..) (fun b' j hk hc=>?_) (Bk ..).symm (ym _ _ _ hB) (h.others.trans (iA.freeze _ _ _)) (Bl h.soft (fun c' T' fr' h'=>by rw[hh] at h';cases h';exact ax _));by_cases e:b=b'
      · subst e;have hs:=hs hk;have hj:j<c.size:=by
          rcases ch j c.size with h'|h'
          · exact h'
          · exact absurd (by simp[World.cell?,hh,b8 h']) hc
        unfold dC;rw[if_neg oM];simp only[World.frozen?,cr,if_true,hh,cl];by_cases hl:lo=hi
        · subst hl;simp only[beq_self_eq_true,if_true];rw[bX];simp only[aw,decide_eq_true_eq];omega
        · have :c.size<=lo:=hs.resolve_left hl;rw[if_neg (by simpa using hl)];rw[bX];simp only[aw,decide_eq_true_eq];omega
      · exact pX _ _ _ _ _ e
    |_=>exact⟨w,by simp[markStringish,run_shape,World.shape?,hh],h⟩
theorem eo.uX(h:eo Γ G s w)(vs us:List Value)(T:TypeId)(t e:Nat)(ht:∀e',e<=e'->G.tok t e'=none):
    ∃G',G.le G'∧eo Γ G' (s.eT t e) (w.alloc (.cells (vs++us).toArray T))∧mT G' w.heap.size 0 vs∧G'.tok t e=some (w.heap.size,vs.length,(vs++us).length)∧(∀o,G'.obj o=G.obj o)∧G.B=G'.B:=by
  obtain⟨hle,hS⟩:=h.Xj vs (vs++us).toArray T (fun j u hu=>by
    have :j<vs.length:=by
      rcases ch j vs.length with h|h
      · exact h
      · simp[a8 h] at hu
    simp[List.getElem?_append_left this,hu])
  have hg:=hS.eT (t:=t) (e:=e) (b:=w.heap.size) (st:=vs.length) (en:=(vs++us).length) (ht e (ax _)) (fun e' he'=>ht e' oM) sM h.base
    (fun j hj nH=>by
      refine⟨⟨(vs++us)[j]'nH,by rw[World.cell?_alloc_new];simp⟩,World.frozen?_alloc_new ..,?_⟩
      simp only[Gh.kT]
      rw[if_neg oM]
      exact xi h j)
    (fun o ho=>absurd (h.ib o _ ho) (cy _)) sM
    (fun t' e' Cr Cs gP ho hk=>by
      obtain⟨b1,st1,en1,k1,_,_,_,_,k6⟩:=h.own t' e' ho
      have :G.tok t' e'=some (w.heap.size,Cr,Cs):=hk
      rw[k1] at this
      simp at this
      omega)
    (fun c T' lo hi hc=>by rw[Od] at hc;cases hc;exact .inl rfl)
  exact⟨_,hle.trans hg.1,hg.2,(mT.added G w.heap.size 0 vs).mono hg.1,by simp[Gh.nI],fun _=>rfl,rfl⟩
def iH(l:List UInt8):List Value:=l.map fun b=>dw .u8 b.toNat
def mA(n:Nat):List Value:=ae n (dw .u8 0)
theorem rN(l:List UInt8):dP G (l.map cU) (iH l):=by
  unfold iH;induction l with
  |nil=>simp[dP]
  |cons b l ih=>simp only[aG,dP];exact⟨_,_,rfl,by simp[cU,dQ],ih⟩
theorem lg(need old:Nat)(e:TypeId)(x:Nat):need<=(cv need old e).cut x:=by simp[Question.cut]
theorem rP(e:TypeId)(b:ByteArray)(w:World):∃cap:Nat,b.size<=cap∧
    (Conv.stringToBytes e b).run P w=.ok (.slice (some ⟨w.heap.size,0,none⟩) b.size cap)
      ((w.drew.alloc (.cells (iH b.data.toList++mA (cap-b.size)).toArray e)).freeze ⟨w.heap.size,cap,none⟩ 1):=by
  refine⟨_,lg b.size 0 e (w.tape w.drawn (.appendCap b.size 0 e)),?_⟩;generalize mV:(cv b.size 0 e).cut (w.tape w.drawn (.appendCap b.size 0 e))=cap;have hle:b.size<=cap:=(by rw[<-mV];exact lg ..);have hf:(cv b.size 0 e).forced=false:=rfl;have xfm:(b.data.map fun b=>dw .u8 b.toNat)++Array.replicate (cap-b.size) (dw .u8 0)=(iH b.data.toList++mA (cap-b.size)).toArray:=by
    apply cF;simp[iH,mA]
  have kv:(iH b.data.toList++mA (cap-b.size)).toArray.size=cap:=by
    have :b.data.size=b.size:=rfl;simp[iH,mA];omega
  have YG:(World.alloc w.drew (.cells (iH b.data.toList++mA (cap-b.size)).toArray e)).shape? w.heap.size=some (e,cap):=by
    have :(World.alloc w.drew (.cells (iH b.data.toList++mA (cap-b.size)).toArray e)).heap[w.heap.size]? =some (.cells (iH b.data.toList++mA (cap-b.size)).toArray e):=by
      show(w.heap.push _)[w.heap.size]? =_;rw[dK]
    simp only[World.shape?,this];rw[kv]
  simp only[Conv.stringToBytes,bo,run_choose,hf,ar,if_false,aM,mV,newRow,run_newObj_alloc,bE,xfm,markStringish,run_shape,World.drew_eq];rw[show w.drew.heap.size=w.heap.size from rfl,YG];simp
theorem eo.stringToBytes(h:eo Γ G s w)(e:TypeId)(l:List UInt8)(k cap:Nat)(hk:l.length+k=cap)(t g:Nat)(ht:∀e',g<=e'->G.tok t e'=none):
    ∃G',G.le G'∧eo Γ G' (s.eT t g) ((w.drew.alloc (.cells (iH l++mA k).toArray e)).freeze ⟨w.heap.size,cap,none⟩ 1)∧mT G' w.heap.size 0 (iH l)∧G'.tok t g=some (w.heap.size,l.length,cap):=by
  obtain⟨G',h1,h2,h3,h4,h5,h6⟩:=h.drew.uX (iH l) (mA k) e t g ht;have kv:(iH l++mA k).toArray.size=cap:=(by simp[iH,mA];omega);have hcell:∀c T fr,(w.drew.alloc (.cells (iH l++mA k).toArray e)).heap[w.heap.size]? =some (.cells c T fr)->c.size<=cap:=by
    intro c T fr hc;have :(w.drew.alloc (.cells (iH l++mA k).toArray e)).heap[w.heap.size]? =some (.cells (iH l++mA k).toArray e):=by
      show(w.drew.heap.push _)[w.drew.heap.size]? =_;rw[dK]
    rw[this] at hc;cases hc;omega
  refine⟨G',h1,h2.Hd (fun b j=>Bj ..) (fun b j hb hc=>?_) (Bk ..).symm (ym _ _ _ (by rw[<-h6];exact h.base)) (h2.others.trans (iA.freeze _ _ _)) (Bl h2.soft hcell),h3,?_⟩
  · by_cases e':w.heap.size=b
    · subst e';have hj:j<(iH l++mA k).toArray.size:=by
        rcases ch j (iH l++mA k).toArray.size with h|h
        · exact h
        · exact absurd (by
            have:=World.cell?_alloc_new w.drew (iH l++mA k).toArray e j;rw[show w.drew.heap.size=w.heap.size from rfl] at this;rw[this,b8 h]) hc
      have:=yl w.drew (iH l++mA k).toArray e j hj;rw[kv] at this;have k2:=World.frozen?_alloc_new w.drew (iH l++mA k).toArray e j;rw[show w.drew.heap.size=w.heap.size from rfl] at this k2;rw[this,k2]
    · exact pX _ _ _ _ _ e'
  · rw[h4];simp[iH,mA,hk]
theorem Pg{src dst:TypeId}{x r:AV}{u:Value}(h:aconv P src dst x=some r)(hx:dQ G x u)(hs:eo Γ G s w):
    ∃G' v w',(convert src dst u).run P w=.ok v w'∧G.le G'∧eo Γ G' s w'∧dQ G' r v:=by
  unfold aconv at h;split at h
  · rename_i k k' LD LF;simp only[dQ] at hx;subst hx;cases h;exact⟨G,_,w,by simp[convert,run_underlying LD,run_underlying LF,Conv.intToInt];rfl,.refl G,hs,by simp[dQ,gq]⟩
  · rename_i LD LF;simp only[dQ] at hx;subst hx;cases h;exact⟨G,_,w,by simp[convert,run_underlying LD,run_underlying LF];rfl,.refl G,hs,by simp[dQ]⟩
  · rename_i e sz n cs sp LD LF;simp only[dQ] at hx;rcases hx with⟨b,off,cap,vs,rfl,hl,_,hv,vN,_⟩|⟨rfl,rfl,a,cap,rfl,_⟩|⟨rfl,rfl,rfl,rfl⟩;case inr.inl=>
      split at h
      · rename_i he;split at h
        · cases h;refine⟨G,.string (p8 []),w,?_,.refl G,hs,by simp only[dQ]⟩;rw[run_convert_bytes_string w src dst e (some a) 0 cap LD he LF];have hl:(loadCells a 0).run P w=.ok #[] w:=run_loadCells_list (P:=P) w a [] sM;simp[Conv.bytesToString,hl,p8];rfl
        · cases h
      · cases h
    case inr.inr=>
      split at h
      · rename_i he;split at h
        · cases h;exact⟨G,_,w,run_convert_bytes_nil w src e LD he _ _ dst LF,.refl G,hs,by simp only[dQ];rfl⟩
        · cases h
      · cases h
    split at h
    · rename_i he;split at h
      · rename_i hc;obtain⟨rfl,fG⟩:=hc;cases h;obtain⟨xs,rfl,hb⟩:=uW hv fG;have hlen:=hv.length;refine⟨G,_,w,run_convert_bytes_arg w src e LD he b off n cap xs (by simp at hlen;omega) (fun i hi=>?_) dst LF,.refl G,hs,?_⟩
        · have et:i<xs.length:=(by simp at hlen;omega);exact hs.ro _ _ _ (vN i _ (by simp[et,bm]))
        · simp only[dQ,strOfNums,p8,hb]
      · cases h
    · cases h
  · rename_i e _ _ LD LF;simp only[dQ] at hx;subst hx;split at h
    · rename_i he;cases h;exact⟨G,_,w,run_convert_bytes_nil w src e LD he _ _ dst LF,.refl G,hs,by simp only[dQ]⟩
    · cases h
  · rename_i e b LD LF;simp only[dQ] at hx;subst hx;split at h
    · rename_i he;cases h;obtain⟨cap,hle,qK⟩:=rP (P:=P) e b w;obtain⟨G',h1,h2,h3,_⟩:=hs.stringToBytes e b.data.toList (cap-b.size) cap (by have :b.data.size=b.size:=rfl;simp;omega) G.nt 0 (fun e' _=>hs.fW _ (ax _) e');refine⟨G',.slice (some ⟨w.heap.size,0,none⟩) b.size cap,_,?_,h1,h2.mono ⟨fun _ _ h=>h,fun t e he=>?_⟩,?_⟩
      · have :(convert src dst (.string b)).run P w=(Conv.stringToBytes e b).run P w:=by
          simp[convert,run_underlying LD,run_underlying LF,run_underlying he]
        rw[this,qK]
      · have :t≠G.nt:=(fun e'=>by subst e';rw[hs.nj (ax _)] at he;cases he);simpa[AS.eT,dY,this] using he
      · simp only[dQ];exact .inl ⟨w.heap.size,0,cap,iH b.data.toList,rfl,by have :b.data.size=b.size:=rfl;simp[this],hle,rN _,h3,trivial⟩
    · cases h
  · rename_i e0 e sz n cs LD LF;simp only[dQ] at hx;rcases hx with⟨b,off,cap,vs,rfl,hl,hn,hv,vN,mV,hB⟩|⟨_,_,a,cap,_,hm⟩|⟨_,_,hm,_⟩;case inr.inl=>rcases hm with hm|hm|⟨hm,_⟩<;>cases hm
    case inr.inr=>cases hm
    split at h
    · rename_i he;split at h
      · rename_i Ph;subst Ph;rw[LD] at LF;cases LF;cases h;obtain⟨w',q1,q2⟩:=hs.U3 (P:=P) (b:=b) (off:=off) hB;refine⟨G,.slice (some ⟨b,off,none⟩) n cap,w',?_,.refl G,q2,?_⟩
        · simp[convert,run_underlying LD,run_underlying he,q1]
        · simp only[dQ];exact .inl ⟨b,off,cap,vs,rfl,hl,hn,hv,vN,mV,hB⟩
      · cases h
    · cases h
  · cases h
end Go.AM
namespace Go.AM
open Go Go.RowKit
variable{P:Program}{Γ:Nat->List AV}{G:Gh}{s:AS}{w:World}
theorem mT.drop{b off:Nat}{vs:List Value}(h:mT G b off vs)(n:Nat):mT G b (off+n) (vs.drop n):=by
  intro j u hj;rw[List.getElem?_drop] at hj;have:=h (n+j) u hj;rwa [show off+n+j=off+(n+j) from oM]
theorem mT.take{b off:Nat}{vs:List Value}(h:mT G b off vs)(n:Nat):mT G b off (vs.take n):=by
  intro j u hj;rw[aF] at hj;split at hj
  · exact h j u hj
  · cases hj
theorem CP{T:TypeId}{x i r:AV}{u v:Value}(h:aindexAddr P T x i=some r)(hx:dQ G x u)(hi:dQ G i v):
    ∃z,(dO T u v).run P w=.ok z w∧dQ G r z:=by
  unfold aindexAddr at h;split at h
  · rename_i e sz n cs sp k j hu;simp only[dQ] at hx hi;subst hi;rcases hx with⟨b,off,cap,vs,rfl,hl,_,hv,vN,_⟩|⟨rfl,_,a,cap,rfl,_⟩|⟨rfl,_,_,rfl⟩;case inr.inl=>
      split at h
      · rename_i hc;obtain⟨h0,h1,_⟩:=hc;exact absurd h1 oM
      · cases h
    case inr.inr=>
      split at h
      · rename_i hc;obtain⟨h0,h1,_⟩:=hc;exact absurd h1 oM
      · cases h
    split at h
    · rename_i hc;obtain⟨h0,h1,rfl,hz⟩:=hc;cases h;refine⟨.pointer (some ⟨b,off+j.toNat*P.cellsOf e,none⟩),?_,?_⟩
      · simp[dO,run_underlying hu,asIntOf,h0,h1,eu hz,gI]
      · simp only[dQ];exact⟨b,_,_,rfl,(hv.drop _).take _,(vN.drop _).take _⟩
    · cases h
  · rename_i e o off sz n cap k j hu;simp only[dQ] at hx hi;subst hi;obtain⟨b,ho,rfl,_⟩:=hx;split at h
    · rename_i hc;obtain⟨h0,h1,rfl,hz⟩:=hc;cases h;refine⟨.pointer (some ⟨b,off+j.toNat*P.cellsOf e,none⟩),?_,?_⟩
      · simp[dO,run_underlying hu,asIntOf,h0,h1,eu hz,gI]
      · simp only[dQ];exact⟨b,ho,rfl⟩
    · cases h
  · rename_i n e o off k j hu;simp only[dQ] at hx hi;subst hi;obtain⟨b,ho,rfl⟩:=hx;split at h
    · rename_i hc;obtain⟨h0,h1,hz⟩:=hc;cases h;refine⟨.pointer (some ⟨b,off+j.toNat*P.cellsOf e,none⟩),?_,?_⟩
      · simp[dO,run_underlying hu,dq,asIntOf,h0,h1,eu hz,gI]
      · simp only[dQ];exact⟨b,ho,rfl⟩
    · cases h
  · rename_i n e cs k j hu;simp only[dQ] at hx hi;subst hi;obtain⟨b,off,vs,rfl,hv,vN⟩:=hx;split at h
    · rename_i hc;obtain⟨h0,h1,hz⟩:=hc;cases h;refine⟨.pointer (some ⟨b,off+j.toNat*P.cellsOf e,none⟩),?_,?_⟩
      · simp[dO,run_underlying hu,dq,asIntOf,h0,h1,eu hz,gI]
      · simp only[dQ];exact⟨b,_,_,rfl,hv.drop _,vN.drop _⟩
    · cases h
  · cases h
theorem L7{T:TypeId}{x i r:AV}{u v:Value}(h:aindex P T x i=some r)(hx:dQ G x u)(hi:dQ G i v):
    ∃z,(Instr.index T u v).run P w=.ok z w∧dQ G r z:=by
  unfold aindex at h;split at h
  · rename_i n e cs k j hu;simp only[dQ] at hx hi;subst hi;obtain⟨vs,rfl,hv⟩:=hx;split at h
    · rename_i hc;obtain⟨h0,h1,hz⟩:=hc;obtain⟨z,QT,CQ⟩:=F6 (w:=w) h hz hv;refine⟨z,?_,CQ⟩;simp[Instr.index,run_underlying hu,asIntOf,h0,h1,eu hz,QT]
    · cases h
  · rename_i b k j hu;simp only[dQ] at hx hi;subst hi hx;split at h
    · rename_i h0;split at h
      · rename_i c hc;cases h;refine⟨.int .u8 c.toNat,?_,by simp[cU,dQ]⟩;simp[Instr.index,run_underlying hu,asIntOf,h0,hc]
      · cases h
    · cases h
  · cases h
theorem run_sliceBound{x:Value}{y:Nat}{code:BoundsCode}{k:IntKind}{i:Int}(hx:x=.int k i)(h0:0<=i)(h1:i<=y):
    (Instr.sliceBound x y code).run P w=.ok i.toNat w:=by
  subst hx;simp[Instr.sliceBound,asIntOf,h0,h1]
inductive pJ(G:Gh):Option AV->Option Value->Prop
  |none:pJ G .none .none
  |some {a:AV} {v:Value}:dQ G a v->pJ G (.some a) (.some v)
theorem fI{d l:Int}{a:Option AV}{v:Option Value}(h:jk d a=some l)(hr:pJ G a v):(v=none∧l=d)∨∃k,v=some (.int k l):=by
  cases hr with
  |none=>simp[jk] at h;exact .inl ⟨rfl,h.symm⟩
  |some hv=>
    rename_i a v;cases a<;>simp[jk] at h;rename_i x;cases x<;>simp[jk] at h;simp only[dQ] at hv;subst hv h;exact .inr ⟨_,rfl⟩
theorem gZ{isSlice:Bool}{len cap:Nat}{l h:Int}{lo hi:Option Value}(He:(lo=none∧l=0)∨∃k,lo=some (.int k l))(I4:(hi=none∧h=len)∨∃k,hi=some (.int k h))
    (h0:0<=l) (h1:l<=h) (h2:h<=cap) (w:World):
    (dN isSlice len cap lo hi none).run P w=.ok (l.toNat,h.toNat,cap) w:=by
  unfold dN;rcases I4 with⟨rfl,rfl⟩|⟨k',rfl⟩
  · rcases He with⟨rfl,rfl⟩|⟨k,rfl⟩
    · simp
    · simp[run_sliceBound (P:=P) (w:=w) (x:=.int k l) (y:=len) (code:=.sliceB) rfl h0 h1]
  · rcases He with⟨rfl,rfl⟩|⟨k,rfl⟩
    · simp[run_sliceBound (P:=P) (w:=w) (x:=.int k' h) (y:=cap) rfl oM h2]
    · have e:((h.toNat:Nat):Int)=h:=oM;simp[run_sliceBound (P:=P) (w:=w) (x:=.int k' h) (y:=cap) rfl oM h2,run_sliceBound (P:=P) (w:=w) (x:=.int k l) (y:=h.toNat) (code:=.sliceB) rfl h0 oM]
theorem l7{isSlice:Bool}{len cap:Nat}{l h m:Int}{lo:Option Value}{k1 k2:IntKind}(He:(lo=none∧l=0)∨∃k,lo=some (.int k l))
    (h0:0<=l) (h1:l<=h) (h2:h<=m) (h3:m<=cap) (w:World):
    (dN isSlice len cap lo (some (.int k1 h)) (some (.int k2 m))).run P w=.ok (l.toNat,h.toNat,m.toNat) w:=by
  unfold dN;rcases He with⟨rfl,rfl⟩|⟨k,rfl⟩
  · simp[run_sliceBound (P:=P) (w:=w) (x:=.int k2 m) (y:=cap) rfl oM h3,run_sliceBound (P:=P) (w:=w) (x:=.int k1 h) (y:=m.toNat) (code:=.slice3B) rfl oM oM]
  · simp[run_sliceBound (P:=P) (w:=w) (x:=.int k2 m) (y:=cap) rfl oM h3,run_sliceBound (P:=P) (w:=w) (x:=.int k1 h) (y:=m.toNat) (code:=.slice3B) rfl oM oM,
      run_sliceBound (P:=P) (w:=w) (x:=.int k l) (y:=h.toNat) (code:=.slice3C) rfl h0 oM]
theorem lh{T e:TypeId}(hu:P.underlying T=some (.slice e))(x:Value)(lo hi mx:Option Value):(dE T x lo hi mx).run P w=(da T x lo hi mx).run P w:=by
  simp[dE,run_underlying hu]
theorem CR{T:TypeId}(hu:P.underlying T=some .string)(x:Value)(lo hi mx:Option Value):(dE T x lo hi mx).run P w=(da T x lo hi mx).run P w:=by
  simp[dE,run_underlying hu]
end Go.AM
namespace Go.AM
open Go Go.RowKit
variable{P:Program}{Γ:Nat->List AV}{G:Gh}{s:AS}{w:World}
theorem xj(b off l sz:Nat)(m:Nat)(vP:m=l∨m≠l):(if m=l then(some ⟨b,off,none⟩:Option Addr) else(some ⟨b,off,none⟩:Option Addr).map (·.add (l*sz)))=some ⟨b,if m=l then off else off+l*sz,none⟩:=by
  rcases vP with h|h<;>simp[h,gI]
theorem L8{T:TypeId}{x r:AV}{u:Value}{lo hi mx:Option AV}{YF et mx':Option Value}(h:aslice P T x lo hi mx=some r)(hx:dQ G x u)
    (He:pJ G lo YF) (I4:pJ G hi et) (Pj:pJ G mx mx'):
    ∃z,(dE T u YF et mx').run P w=.ok z w∧dQ G r z:=by
  unfold aslice at h
  split at h
  · -- a read-only slice
    rename_i e sz n cs sp hu
    simp only[dQ] at hx
    rcases hx with⟨b,off,cap,vs,rfl,hl,Hf,hv,vN,uY⟩|⟨rfl,rfl,a,cap,rfl,uY⟩|⟨rfl,rfl,rfl,rfl⟩
    case inr.inl=>
      split at h
      · rename_i l h' m o1 o2 o3
        split at h
        · rename_i hc
          obtain⟨c0,c1,c2,c3,c4,c5,c6⟩:=hc
          have zX:l=0:=oM
          have hh0:h'=0:=oM
          subst zX hh0
          cases h
          subst c5
          have q1:=fI o1 He
          have q2:=fI o2 I4
          rw[lh hu]
          cases Pj with
          |none=>
            have hb:=gZ (P:=P) (isSlice:=true) (len:=0) (cap:=cap) q1 q2 (bB 0) (bB 0) oM w
            refine⟨.slice (some a) 0 cap,?_,?_⟩
            · simp[da,run_underlying hu,hb,eu c6,Addr.add]
            · simp only[dQ]
              refine .inr (.inl ⟨sM,sM,a,cap,rfl,?_⟩)
              rcases uY with rfl|rfl|⟨rfl,rfl⟩<;>simp
          |some hm=>
            rename_i ma mv
            have q3:=fI o3 (pJ.some hm)
            obtain⟨k2,I5⟩:∃k,some mv=some (.int k m):=by
              rcases q3 with⟨q,_⟩|q
              · cases q
              · exact q
            have zZ:m=0:=by have:=c3 rfl;omega
            subst zZ
            cases I5
            have kR:∃k1,et=some (.int k1 0):=by
              rcases q2 with⟨q,q'⟩|q
              · subst q
                cases I4
                exact absurd (c4 rfl) sM
              · exact q
            obtain⟨k1,rfl⟩:=kR
            have hb:=l7 (P:=P) (isSlice:=true) (len:=0) (cap:=cap) (k1:=k1) (k2:=k2) q1 (bB 0) (bB 0) (bB 0) oM w
            refine⟨.slice (some a) 0 0,?_,?_⟩
            · simp[da,run_underlying hu,hb,eu c6,Addr.add]
            · simp only[dQ]
              refine .inr (.inl ⟨sM,sM,a,0,rfl,?_⟩)
              rcases uY with rfl|rfl|⟨rfl,rfl⟩<;>simp
        · cases h
      · cases h
    case inr.inr=>
      split at h
      · rename_i l h' m o1 o2 o3
        split at h
        · rename_i hc
          obtain⟨c0,c1,c2,c3,c4,c5,c6⟩:=hc
          have zX:l=0:=oM
          have hh0:h'=0:=oM
          subst zX hh0
          cases h
          subst c5
          have q1:=fI o1 He
          have q2:=fI o2 I4
          rw[lh hu]
          refine⟨.slice none 0 0,?_,by simp only[dQ];exact .inr (.inr ⟨sM,sM,sM,sM⟩)⟩
          cases Pj with
          |none=>
            have hb:=gZ (P:=P) (isSlice:=true) (len:=0) (cap:=0) q1 q2 (bB 0) (bB 0) (bB 0) w
            simp[da,run_underlying hu,hb,eu c6]
          |some hm=>
            rename_i ma mv
            have q3:=fI o3 (pJ.some hm)
            obtain⟨k2,I5⟩:∃k,some mv=some (.int k m):=by
              rcases q3 with⟨q,_⟩|q
              · cases q
              · exact q
            have zZ:m=0:=by have:=c3 rfl;omega
            subst zZ
            cases I5
            have kR:∃k1,et=some (.int k1 0):=by
              rcases q2 with⟨q,q'⟩|q
              · subst q
                cases I4
                exact absurd (c4 rfl) sM
              · exact q
            obtain⟨k1,rfl⟩:=kR
            have hb:=l7 (P:=P) (isSlice:=true) (len:=0) (cap:=0) (k1:=k1) (k2:=k2) q1 (bB 0) (bB 0) (bB 0) (bB 0) w
            simp[da,run_underlying hu,hb,eu c6]
        · cases h
      · cases h
    split at h
    · rename_i l h' m o1 o2 o3
      split at h
      · rename_i hc
        obtain⟨c0,c1,c2,c3,c4,c5,c6⟩:=hc
        cases h
        subst c5
        have q1:=fI o1 He
        have q2:=fI o2 I4
        have hlen:=hv.length
        have mQ:((cs.take (h'.toNat*P.cellsOf e)).drop (l.toNat*P.cellsOf e)).length=(h'.toNat-l.toNat)*P.cellsOf e:=by
          have :h'.toNat*P.cellsOf e<=n*P.cellsOf e:=b9 _ oM
          simp only[List.length_drop,aV,hl,Nat.sub_mul]
          omega
        have xbk:l.toNat<=h'.toNat:=oM
        rw[lh hu]
        cases Pj with
        |none=>
          have hb:=gZ (P:=P) (isSlice:=true) (len:=n) (cap:=cap) q1 q2 c0 c1 oM w
          refine⟨.slice (some ⟨b,if cap=l.toNat then off else off+l.toNat*P.cellsOf e,none⟩) (h'.toNat-l.toNat) (cap-l.toNat),?_,?_⟩
          · simp only[da,bo,run_underlying hu,aM,hb,eu c6,bE]
            rw[xj _ _ _ _ _ (Decidable.em _)]
          · simp only[dQ]
            refine .inl ⟨b,_,_,(vs.take (h'.toNat*P.cellsOf e)).drop (l.toNat*P.cellsOf e),rfl,mQ,oM,(hv.take _).drop _,?_,?_⟩
            · by_cases mV:cap=l.toNat
              · rw[if_pos mV]
                have :(vs.take (h'.toNat*P.cellsOf e)).drop (l.toNat*P.cellsOf e)=[]:=by
                  apply cS
                  have :h'.toNat*P.cellsOf e<=l.toNat*P.cellsOf e:=b9 _ oM
                  simp only[aV];omega
                rw[this]
                intro j u hj;simp at hj
              · rw[if_neg mV];exact(vN.take _).drop _
            · simp only[Option.isSome_none,ar,if_false]
              by_cases hn:h'=(n:Int)
              · have hn':h'.toNat=n:=oM
                cases sp with
                |no=>exact True.intro
                |any=>exact True.intro
                |full=>simp only[if_pos hn];simp only[ke] at uY⊢;omega
                |new=>simp only[if_pos hn];simp only[ke] at uY⊢;exact⟨oM,uY.2⟩
                |own t g=>
                  simp only[if_pos hn]
                  by_cases zX:l=0
                  · subst zX
                    rw[if_pos rfl]
                    simp only[ke] at uY⊢
                    rw[hn',uY]
                    by_cases F7:cap=(0:Int).toNat<;>simp[F7]
                  · rw[if_neg zX];exact True.intro
              · cases sp<;>first |exact True.intro|(simp only[if_neg hn];exact True.intro)
        |some hm=>
          rename_i ma mv
          have q3:=fI o3 (pJ.some hm)
          have hhm:h'=m:=c3 rfl
          subst hhm
          obtain⟨k2,I5⟩:∃k,some mv=some (.int k h'):=by
            rcases q3 with⟨q,_⟩|q
            · cases q
            · exact q
          cases I5
          have kR:∃k1,et=some (.int k1 h'):=by
            rcases q2 with⟨q,q'⟩|q
            · subst q
              cases I4
              exact absurd (c4 rfl) sM
            · exact q
          obtain⟨k1,rfl⟩:=kR
          have hb:=l7 (P:=P) (isSlice:=true) (len:=n) (cap:=cap) (k1:=k1) (k2:=k2) q1 c0 c1 (bB h') oM w
          refine⟨.slice (some ⟨b,if h'.toNat=l.toNat then off else off+l.toNat*P.cellsOf e,none⟩) (h'.toNat-l.toNat) (h'.toNat-l.toNat),?_,?_⟩
          · simp only[da,bo,run_underlying hu,aM,hb,eu c6,bE]
            rw[xj _ _ _ _ _ (Decidable.em _)]
          · simp only[dQ]
            refine .inl ⟨b,_,_,(vs.take (h'.toNat*P.cellsOf e)).drop (l.toNat*P.cellsOf e),rfl,mQ,oM,(hv.take _).drop _,?_,?_⟩
            · by_cases mV:h'.toNat=l.toNat
              · rw[if_pos mV]
                have :(vs.take (h'.toNat*P.cellsOf e)).drop (l.toNat*P.cellsOf e)=[]:=by
                  apply cS
                  simp only[aV,mV];omega
                rw[this]
                intro j u hj;simp at hj
              · rw[if_neg mV];exact(vN.take _).drop _
            · cases sp<;>simp[ke]
      · cases h
    · cases h
  · -- nil
    rename_i e hu
    simp only[dQ] at hx
    subst hx
    split at h
    · rename_i l h' m o1 o2 o3
      split at h
      · rename_i hc
        obtain⟨rfl,rfl,rfl,c6,c4⟩:=hc
        cases h
        have q1:=fI o1 He
        have q2:=fI o2 I4
        rw[lh hu]
        refine⟨.slice none 0 0,?_,by simp[dQ]⟩
        cases Pj with
        |none=>
          have hb:=gZ (P:=P) (isSlice:=true) (len:=0) (cap:=0) q1 (by simpa using q2) (bB 0) (bB 0) (bB 0) w
          simp[da,run_underlying hu,hb,eu c6]
        |some hm=>
          rename_i ma mv
          have q3:=fI o3 (pJ.some hm)
          obtain⟨k2,I5⟩:∃k,some mv=some (.int k 0):=by
            rcases q3 with⟨q,_⟩|q
            · cases q
            · exact q
          cases I5
          have kR:∃k1,et=some (.int k1 0):=by
            rcases q2 with⟨q,q'⟩|q
            · subst q
              cases I4
              exact absurd (c4 rfl) sM
            · exact q
          obtain⟨k1,rfl⟩:=kR
          have hb:=l7 (P:=P) (isSlice:=true) (len:=0) (cap:=0) (k1:=k1) (k2:=k2) q1 (bB 0) (bB 0) (bB 0) (bB 0) w
          simp[da,run_underlying hu,hb,eu c6]
      · cases h
    · cases h
  · -- a slice of an object
    rename_i e o off sz n cap hu
    simp only[dQ] at hx
    obtain⟨b,ho,rfl,Hf⟩:=hx
    split at h
    · rename_i l h' o1 o2
      cases Pj
      split at h
      · rename_i hc
        obtain⟨c0,c1,c2,rfl,c6⟩:=hc
        cases h
        have q1:=fI o1 He
        have q2:=fI o2 I4
        rw[lh hu]
        have hb:=gZ (P:=P) (isSlice:=true) (len:=n) (cap:=cap) q1 q2 c0 c1 c2 w
        refine⟨.slice (some ⟨b,if cap=l.toNat then off else off+l.toNat*P.cellsOf e,none⟩) (h'.toNat-l.toNat) (cap-l.toNat),?_,?_⟩
        · simp only[da,bo,run_underlying hu,aM,hb,eu c6,bE]
          rw[xj _ _ _ _ _ (Decidable.em _)]
        · simp only[dQ]
          refine⟨b,ho,?_,oM⟩
          by_cases mV:cap=l.toNat
          · rw[if_pos mV,if_pos oM]
          · rw[if_neg mV,if_neg oM]
      · cases h
    · cases h
  · -- an array's address
    rename_i n e o off hu
    simp only[dQ] at hx
    obtain⟨b,ho,rfl⟩:=hx
    split at h
    · rename_i l h' o1 o2
      cases Pj
      split at h
      · rename_i hc
        obtain⟨c0,c1,c2,c6⟩:=hc
        cases h
        have q1:=fI o1 He
        have q2:=fI o2 I4
        have hb:=gZ (P:=P) (isSlice:=false) (len:=n) (cap:=n) q1 q2 c0 c1 c2 w
        refine⟨.slice (some ⟨b,if n=l.toNat then off else off+l.toNat*P.cellsOf e,none⟩) (h'.toNat-l.toNat) (n-l.toNat),?_,?_⟩
        · simp only[dE,bo,run_underlying hu,aM,dq,bE,hb,eu c6]
          by_cases mV:n=l.toNat
          · simp[mV]
          · simp[mV,gI]
        · simp only[dQ]
          refine⟨b,ho,?_,oM⟩
          by_cases mV:n=l.toNat
          · rw[if_pos mV,if_pos oM]
          · rw[if_neg mV,if_neg oM]
      · cases h
    · cases h
  · -- a string
    rename_i b hu
    simp only[dQ] at hx
    subst hx
    split at h
    · rename_i l h' o1 o2
      cases Pj
      split at h
      · rename_i hc
        obtain⟨c0,c1,c2⟩:=hc
        cases h
        have q1:=fI o1 He
        have q2:=fI o2 I4
        rw[CR hu]
        have hb:=gZ (P:=P) (isSlice:=false) (len:=b.size) (cap:=b.size) q1 q2 c0 c1 c2 w
        exact⟨.string (b.extract l.toNat h'.toNat),by simp[da,run_underlying hu,hb],by simp[dQ]⟩
      · cases h
    · cases h
  · cases h
theorem Hg{b:Builtin}{argTypes:Array TypeId}{args:List AV}{vs:List Value}{T:TypeId}{consts:Array Bool}{r:AV}(h:abuiltin P b argTypes args=some r)(hv:dP G args vs):
    ∃z,(builtin b argTypes T consts vs.toArray).run P w=.ok (.value z) w∧dQ G r z:=by
  unfold abuiltin at h;split at h
  · rename_i x;simp only[dP] at hv;obtain⟨u,us,rfl,hx,rfl⟩:=hv;split at h
    · rename_i e sz n cs sp hu;obtain⟨t,ht,hu⟩:=bU.1 hu;simp only[dQ] at hx;cases h;rcases hx with⟨b,off,cap,vs,rfl,_⟩|⟨rfl,rfl,a,cap,rfl,_⟩|⟨rfl,rfl,rfl,rfl⟩
      · exact⟨.int .i64 n,by simp[builtin,dI,ht,run_underlying hu,goInt],by simp[dQ]⟩
      · exact⟨.int .i64 0,by simp[builtin,dI,ht,run_underlying hu,goInt],by simp[dQ]⟩
      · exact⟨.int .i64 0,by simp[builtin,dI,ht,run_underlying hu,goInt],by simp[dQ]⟩
    · rename_i e o off sz n cap hu;obtain⟨t,ht,hu⟩:=bU.1 hu;simp only[dQ] at hx;obtain⟨b,_,rfl,_⟩:=hx;cases h;exact⟨.int .i64 n,by simp[builtin,dI,ht,run_underlying hu,goInt],by simp[dQ]⟩
    · rename_i e n cap hu;obtain⟨t,ht,hu⟩:=bU.1 hu;simp only[dQ] at hx;subst hx;cases h;exact⟨.int .i64 n,by simp[builtin,dI,ht,run_underlying hu,goInt],by simp[dQ]⟩
    · rename_i b hu;obtain⟨t,ht,hu⟩:=bU.1 hu;simp only[dQ] at hx;subst hx;cases h;exact⟨.int .i64 b.size,by simp[builtin,dI,ht,run_underlying hu,goInt],by simp[dQ]⟩
    · rename_i n e hu;obtain⟨t,ht,hu⟩:=bU.1 hu;cases h;exact⟨.int .i64 n,by simp[builtin,dI,ht,run_underlying hu,goInt],by simp[dQ]⟩
    · cases h
  · rename_i x;simp only[dP] at hv;obtain⟨u,us,rfl,hx,rfl⟩:=hv;split at h
    · rename_i e o off sz n cap hu;obtain⟨t,ht,hu⟩:=bU.1 hu;simp only[dQ] at hx;obtain⟨b,_,rfl,_⟩:=hx;cases h;exact⟨.int .i64 cap,by simp[builtin,Builtin.cap_,ht,run_underlying hu,goInt],by simp[dQ]⟩
    · rename_i e n cap hu;obtain⟨t,ht,hu⟩:=bU.1 hu;simp only[dQ] at hx;subst hx;cases h;exact⟨.int .i64 cap,by simp[builtin,Builtin.cap_,ht,run_underlying hu,goInt],by simp[dQ]⟩
    · rename_i e sz n cs hu;obtain⟨t,ht,hu⟩:=bU.1 hu;simp only[dQ,ke] at hx;cases h;rcases hx with⟨b,off,cap,vs,rfl,_,_,_,_,rfl⟩|⟨rfl,rfl,a,cap,rfl,uY⟩|⟨_,_,uY,_⟩
      · exact⟨.int .i64 _,by simp[builtin,Builtin.cap_,ht,run_underlying hu,goInt];rfl,by simp[dQ]⟩
      · obtain rfl:cap=0:=(by simpa using uY);exact⟨.int .i64 0,by simp[builtin,Builtin.cap_,ht,run_underlying hu,goInt],by simp[dQ]⟩
      · simp at uY
    · rename_i e sz n cs hu;obtain⟨t,ht,hu⟩:=bU.1 hu;simp only[dQ,ke] at hx;rcases hx with⟨b,off,cap,vs,rfl,_,_,_,_,rfl,_⟩|⟨_,_,a,cap,_,hm⟩|⟨_,_,hm,_⟩;case inr.inl=>rcases hm with hm|hm|⟨hm,_⟩<;>cases hm
      case inr.inr=>cases hm
      cases h;exact⟨.int .i64 _,by simp[builtin,Builtin.cap_,ht,run_underlying hu,goInt];rfl,by simp[dQ]⟩
    · cases h
  · rename_i k x k' y;simp only[dP,dQ] at hv;obtain⟨u,us,rfl,rfl,v,BW,rfl,rfl,rfl⟩:=hv;split at h
    · rename_i hk;cases h;exact⟨_,by simp[builtin,Builtin.min_,Builtin.min2];rfl,by simp[dQ]⟩
    · cases h
  · rename_i k x k' y;simp only[dP,dQ] at hv;obtain⟨u,us,rfl,rfl,v,BW,rfl,rfl,rfl⟩:=hv;split at h
    · rename_i hk;cases h;exact⟨_,by simp[builtin,Builtin.max_,Builtin.max2];rfl,by simp[dQ]⟩
    · cases h
  · cases h
end Go.AM
namespace Go.AM
open Go Go.RowKit
variable{P:Program}{Γ:Nat->List AV}{G:Gh}{s:AS}{w:World}
def td(cells:List Value)(off:Nat):List Value->List Value
  |[]=>cells
  |x::xs=>td (cells.set off x) (off+1) xs
theorem uZ:∀(xs cells:List AV)(off:Nat),(eQ cells off xs).length=cells.length
  |[],_,_=>rfl
  |x::xs,cells,off=>by simp[eQ,uZ xs]
theorem F8:∀(us:List Value)(cells:Array Value)(off k:Nat),
    (us.zipIdx k).foldl (fun cs(p:Value×Nat)=>cs.setIfInBounds (off+p.2) p.1) cells=(td cells.toList (off+k) us).toArray
  |[],cells,off,k=>by simp[td]
  |u::us,cells,off,k=>by
    simp only[List.zipIdx_cons,List.foldl_cons,td];rw[F8 us];simp[cK]
theorem dP.Rc:∀{ds:List AV}{us:List Value}{cs:List AV}{vs:List Value}(off:Nat),dP G cs vs->dP G ds us->dP G (eQ cs off ds) (td vs off us)
  |[],us,cs,vs,off,h,k=>by simp only[dP] at k;subst k;simpa[eQ,td] using h
  |d::ds,us,cs,vs,off,h,k=>by
    simp only[dP] at k;obtain⟨u,BW,rfl,h2,h3⟩:=k;simp only[eQ,td];exact dP.Rc (off+1) (h.set off h2) h3
inductive kU(G:Gh):List (Nat×AV)->List (Nat×Value)->Prop
  |nil:kU G [] []
  |cons (i:Nat) {a:AV} {v:Value} {as:List (Nat×AV)} {vs:List (Nat×Value)}:dQ G a v->kU G as vs->kU G ((i,a)::as) ((i,v)::vs)
theorem kU.of_map{ρ:Operand->AV}{ρ':Operand->Value}(h:∀x,dQ G (ρ x) (ρ' x)):∀(l:List (Nat×Operand)),kU G (l.map fun p=>(p.1,ρ p.2)) (l.map fun p=>(p.1,ρ' p.2))
  |[]=>.nil
  |(i,x)::l=>.cons _ (h x) (kU.of_map h l)
theorem pf(place:Nat->Option (Nat×Nat)):∀{ps:List (Nat×AV)}{qs:List (Nat×Value)}{cs cs':List AV}{vs:List Value},ov place cs ps=some cs'->kU G ps qs->dP G cs vs->
    ∃UF:List Value,Instr.fill place vs.toArray qs=some UF.toArray∧dP G cs' UF
  |[],qs,cs,cs',vs,h,hp,hv=>by
    cases hp;simp[ov] at h;subst h;exact⟨vs,by simp[Instr.fill],hv⟩
  |(_,a)::ps,qs,cs,cs',vs,h,hp,hv=>by
    cases hp with
    |cons _ ha hp=>
      rename_i v qs;unfold ov at h;split at h
      · cases h
      · rename_i off size Cu;split at h
        · cases h
        · rename_i hc;have pK:=qJ ha;have QU:=pK.length;have CM:=hv.length;have Pk:v.cells.toList.length=v.cells.size:=sM;obtain⟨UF,h1,h2⟩:=pf place h hp (hv.Rc off pK);refine⟨UF,?_,h2⟩;simp only[Instr.fill,Cu];rw[if_neg]
          · rw[<-h1];congr 1;have:=F8 v.cells.toList vs.toArray off 0;rw[<-Array.foldl_toList,Array.toList_zipIdx];exact this
          · simp only[not_or,Nat.not_lt,ne_eq,Classical.not_not,Bool.or_eq_true,decide_eq_true_eq] at hc⊢;refine⟨oM,?_⟩;simp only[List.size_toArray];omega
theorem iP{t:TypeId}{z:List AV}(h:eO P t=some z):∃v,(∀w,(zeroValue t).run P w=.ok v w)∧z=v.cells.toList.map .v:=by
  unfold eO at h;cases hi:P.info? t with
  |none=>simp[hi] at h
  |some i=>
    simp[hi] at h;obtain⟨v,h1,h2⟩:=h;exact⟨v,fun w=>by simp[zeroValue,typeInfo,hi,h1],h2.symm⟩
theorem B0(fs:Array Field)(fG:fs.all (fun f=>(P.info? f.type).isSome)=true)(w:World):
    (fs.mapM fun f=>(do pure (f.offset,<-sizeOf f.type):Sem (Nat×Nat))).run P w=.ok (fs.map fun f=>(f.offset,P.cellsOf f.type)) w:=by
  have key:∀(l:List Field),(∀f∈l,(P.info? f.type).isSome=true)->(l.mapM fun f=>(do pure (f.offset,<-sizeOf f.type):Sem (Nat×Nat))).run P w=.ok (l.map fun f=>(f.offset,P.cellsOf f.type)) w:=by
    intro l;induction l with
    |nil=>intro _;simp
    |cons f l ih=>
      intro hl;simp only[List.mapM_cons,bo,BZ (hl f sM),aM,bE,ih (fun g hg=>hl g (by simp[hg]))];simp
  rw[Array.mapM_eq_mapM_toList];simp only[Sem.run_map];rw[key fs.toList (fun f hf=>by
    rw[Array.all_eq_true_iff_forall_mem] at fG;exact fG f (by simpa using hf))]
  simp only[aM];congr 1;apply cF;simp
theorem run_build{T:TypeId}{parts:List (Nat×AV)}{qs:Array (Nat×Value)}{r:AV}
    (h:(match P.underlying T,eO P T with
      |some (.struct _),some z=>
        if kf P T=true then(ov (placeOf P T) z parts).map .agg else none
      |some (.array _ e),some z=>if P.cellsOf e=0 then none else(ov (fun i=>some (i*P.cellsOf e,P.cellsOf e)) z parts).map .agg
      |_,_=>none)=some r) (hp:kU G parts qs.toList):
    ∃v,(Instr.build T qs).run P w=.ok v w∧dQ G r v:=by
  split at h
  · rename_i fs z hu hz;obtain⟨v,hv,rfl⟩:=iP hz;split at h
    · rename_i fG;have fG:fs.all (fun f=>(P.info? f.type).isSome)=true:=(by simpa[kf,hu] using fG);have YH:placeOf P T=fun(i:Nat)=>(fs[i]?).map fun(f:Field)=>(f.offset,P.cellsOf f.type):=by
        funext i;simp only[placeOf,fk,hu];cases fs[i]? <;>rfl
      rw[YH] at h;simp only[cZ] at h;obtain⟨cs,h1,rfl⟩:=h;obtain⟨vs,h2,h3⟩:=pf _ h1 hp (dP.Jo (G:=G) v.cells.toList);refine⟨.agg vs.toArray,?_,by simp only[dQ];exact⟨vs,rfl,h3⟩⟩;have e:(fun(i:Nat)=>(fs.map fun(f:Field)=>(f.offset,P.cellsOf f.type))[i]?)=fun(i:Nat)=>(fs[i]?).map fun(f:Field)=>(f.offset,P.cellsOf f.type):=by
        funext i;simp
      simp only[Instr.build,bo,hv,aM,run_underlying hu,B0 fs fG];simp only[Array.toArray_toList] at h2;simp only[e,h2];rfl
    · cases h
  · rename_i n e z hu hz;obtain⟨v,hv,rfl⟩:=iP hz;split at h
    · cases h
    · rename_i gP;simp only[cZ] at h;obtain⟨cs,h1,rfl⟩:=h;obtain⟨vs,h2,h3⟩:=pf _ h1 hp (dP.Jo (G:=G) v.cells.toList);refine⟨.agg vs.toArray,?_,by simp only[dQ];exact⟨vs,rfl,h3⟩⟩;simp only[Array.toArray_toList] at h2;simp[Instr.build,hv,run_underlying hu,eu gP,h2]
  · cases h
theorem xk{z:List Value}(n:Nat)(hz:z≠[]):dP G (rF n (z.map .v)) ((aq n).map fun i=>z.toArray[i%z.toArray.size]!):=by
  have key:∀(l:List Nat),dP G (l.map fun i=>(z.map AV.v).getD (i%(z.map AV.v).length) (.v default)) (l.map fun i=>z.toArray[i%z.toArray.size]!):=by
    intro l;induction l with
    |nil=>simp[dP]
    |cons i l ih=>
      simp only[aG,dP];refine⟨_,_,rfl,?_,ih⟩;have fB:i%z.length<z.length:=Nat.mod_lt _ (List.length_pos_iff.2 hz);simp[dQ,fB,bm]
  exact key _
theorem B1(hs:eo Γ G s w){T:TypeId}{len:Nat}{parts:List (Nat×AV)}{qs:Array (Nat×Value)}{r:AV}
    (h:(match P.underlying T with
      |some (.slice e)=>
        match eO P e with
        |some z=>
          if P.cellsOf e=0∨len*P.cellsOf e>2^24∨z.length≠P.cellsOf e then none else
          (ov (fun i=>some (i*P.cellsOf e,P.cellsOf e)) (rF (len*P.cellsOf e) z) parts).map fun cs=>.sl (P.cellsOf e) len cs .new
        |none=>none
      |_=>none)=some r) (hp:kU G parts qs.toList):
    ∃G' v w',(Instr.buildSlice T len qs).run P w=.ok v w'∧G.le G'∧eo Γ G' s w'∧dQ G' r v:=by
  split at h
  · rename_i e hu;split at h
    · rename_i z hz;obtain⟨v,hv,rfl⟩:=iP hz;split at h
      · cases h
      · rename_i hc;simp only[not_or,ne_eq,Classical.not_not,Nat.not_lt,gt_iff_lt] at hc;obtain⟨c1,c2,c3⟩:=hc;simp only[cZ] at h;obtain⟨cs,h1,rfl⟩:=h;have gP:v.cells.toList≠[]:=by
          intro e';rw[e'] at c3;simp at c3;omega
        obtain⟨vs,h2,h3⟩:=pf (G:=G) _ h1 hp (xk (len*P.cellsOf e) gP);have hlen:cs.length=len*P.cellsOf e:=by
          have :∀{place:Nat->Option (Nat×Nat)}{ps:List (Nat×AV)}{cs cs':List AV},ov place cs ps=some cs'->cs'.length=cs.length:=by
            intro place ps;induction ps with
            |nil=>intro cs cs' h;simp[ov] at h;simp[h]
            |cons p ps ih=>
              obtain⟨i,a⟩:=p;intro cs cs' h;unfold ov at h;split at h
              · cases h
              · split at h
                · cases h
                · rw[ih h,uZ]
          rw[this h1];simp[rF]
        obtain⟨hle,hS⟩:=hs.Xj vs vs.toArray e (fun j u hj=>by simpa using hj);refine⟨_,.slice (some ⟨w.heap.size,0,none⟩) len len,_,?_,hle,hS,?_⟩
        · simp only[Instr.buildSlice,bo,run_underlying hu,aM,eu c1];rw[if_neg oM];by_cases h0:len*P.cellsOf e=0
          · have pK:(Array.range (len*P.cellsOf e)).map (fun i=>(#[]:Array Value)[i%(#[]:Array Value).size]!)=((aq (len*P.cellsOf e)).map fun i=>v.cells.toList.toArray[i%v.cells.toList.toArray.size]!).toArray:=by
              rw[h0];simp
            rw[if_pos h0];simp only[bo,bE,aM,pK,h2];simp[newRow]
          · have pK:(Array.range (len*P.cellsOf e)).map (fun i=>v.cells[i%v.cells.size]!)=((aq (len*P.cellsOf e)).map fun i=>v.cells.toList.toArray[i%v.cells.toList.toArray.size]!).toArray:=by
              apply cF;simp
            rw[if_neg h0];simp only[bo,hv,bE,aM,pK,h2];simp[newRow]
        · simp only[dQ];exact .inl ⟨w.heap.size,0,len,vs,rfl,hlen,ax _,dP.mono hle _ _ h3,mT.added G w.heap.size 0 vs,rfl,hs.base⟩
    · cases h
  · cases h
end Go.AM
