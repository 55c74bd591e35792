/- An abstract machine for the model and the rules of its walk, each proved sound over the model; no condition. -/
import Derived.Orders
import Derived.Below
import Derived.Laws.Entries
import Derived.ChangeKeysEq
import Derived.Laws.StructEq
import Derived.Laws.Append
import Derived.Laws.BytesArg
import Derived.Laws.NewFold
import Derived.Laws.Build
set_option linter.unusedSimpArgs false
set_option linter.unusedVariables false
namespace Go.AM
open Go Go.RowKit
inductive Sp where
  |new
  |no
  |full
  |own (t e:Nat)
  |any
def Sp.isAny:Sp→Bool
  |.any=>true
  |.new=>false
  |.no=>false
  |.full=>false
  |.own _ _=>false
inductive AV where
  |v (x:Value)
  |sl (sz n:Nat) (cs:List AV) (sp:Sp)
  |cN (cs:List AV)
  |ptr (o off:Nat)
  |ig (o off sz n cap:Nat)
  |agg (cs:List AV)
  |eu (cs:List AV)
  |qE (f:FuncId) (cg:List AV)
structure Gh where
  ro:Nat→Nat→Option Value
  obj:Nat→Option Nat
  tok:Nat→Nat→Option (Nat×Nat×Nat)
  no:Nat
  nt:Nat
  B:Nat
  w0:World
  df:List Deferred
structure Gh.le(G G':Gh):Prop where
  ro:∀b j u,G.ro b j=some u→G'.ro b j=some u
  obj:∀o b,G.obj o=some b→G'.obj o=some b
  tok:∀t e r,G.tok t e=some r→G'.tok t e=some r
  B:G'.B=G.B
  w0:G'.w0=G.w0
  df:G'.df=G.df
theorem Gh.le.refl(G:Gh):G.le G:=⟨fun _ _ _ h=>h,fun _ _ h=>h,fun _ _ _ h=>h,rfl,rfl,rfl⟩
theorem Gh.le.trans{a b c:Gh}(h:a.le b)(k:b.le c):a.le c:=
  ⟨fun _ _ _ x=>k.ro _ _ _ (h.ro _ _ _ x),fun _ _ x=>k.obj _ _ (h.obj _ _ x),fun _ _ _ x=>k.tok _ _ _ (h.tok _ _ _ x),k.B.trans h.B,k.w0.trans h.w0,k.df.trans h.df⟩
def gz(G:Gh)(b off:Nat)(vs:List Value):Prop:=∀j u,vs[j]? =some u→G.ro b (off+j)=some u
def eC(G:Gh)(b off sz n cap:Nat):Sp→Prop
  |.no=>True
  |.any=>True
  |.full=>cap=n
  |.new=>cap=n∧G.B≤b
  |.own t e=>G.tok t e=some (b,off+n*sz,off+cap*sz)
mutual
def av(G:Gh):AV→Value→Prop
  |.v x,y=>y=x
  |.sl sz n cs sp,y=>(∃b off cap vs,y=.slice (some ⟨b,off,none⟩) n cap∧cs.length=n*sz∧n≤cap∧ar G cs vs∧gz G b off vs∧eC G b off sz n cap sp)∨
      (n=0∧cs=[]∧∃a cap,y=.slice (some a) 0 cap∧(sp=.no∨sp=.any∨(sp=.full∧cap=0)))∨
      (n=0∧cs=[]∧sp=.any∧y=.slice none 0 0)
  |.cN cs,y=>∃b off vs,y=.pointer (some ⟨b,off,none⟩)∧ar G cs vs∧gz G b off vs
  |.ptr o off,y=>∃b,G.obj o=some b∧y=.pointer (some ⟨b,off,none⟩)
  |.ig o off _ n cap,y=>∃b,G.obj o=some b∧y=.slice (some ⟨b,off,none⟩) n cap∧n≤cap
  |.agg cs,y=>∃vs:List Value,y=.agg vs.toArray∧ar G cs vs
  |.eu cs,y=>∃vs:List Value,y=.tuple vs.toArray∧ar G cs vs
  |.qE f cg,y=>∃vs:List Value,y=.func (.func f) #[] vs.toArray∧ar G cg vs
def ar(G:Gh):List AV→List Value→Prop
  |[],vs=>vs=[]
  |c::cs,vs=>∃u us,vs=u::us∧av G c u∧ar G cs us
end
theorem gz.mono{G G':Gh}(h:G.le G'){b off:Nat}{vs:List Value}(k:gz G b off vs):gz G' b off vs:=
  fun j u hj=>h.ro _ _ _ (k j u hj)
theorem eC.mono{G G':Gh}(h:G.le G'){b off sz n cap:Nat}{sp:Sp}(k:eC G b off sz n cap sp):eC G' b off sz n cap sp:=by
  cases sp with
  |no=>trivial
  |any=>trivial
  |full=>exact k
  |new=>exact⟨k.1,by rw[h.B];exact k.2⟩
  |own t e=>exact h.tok _ _ _ k
mutual
theorem av.mono{G G':Gh}(h:G.le G'):∀(c:AV)(u:Value),av G c u→av G' c u
  |.v x,u,k=>by simpa[av] using k
  |.sl sz n cs sp,u,k=>by
    simp only[av] at k⊢;rcases k with⟨b,off,cap,vs,h1,h2,h3,h4,h5,h6⟩|k
    · exact .inl ⟨b,off,cap,vs,h1,h2,h3,ar.mono h cs vs h4,h5.mono h,h6.mono h⟩
    · exact .inr k
  |.cN cs,u,k=>by
    simp only[av] at k⊢;obtain⟨b,off,vs,h1,h4,h5⟩:=k;exact⟨b,off,vs,h1,ar.mono h cs vs h4,h5.mono h⟩
  |.ptr o off,u,k=>by
    simp only[av] at k⊢;obtain⟨b,h1,h2⟩:=k;exact⟨b,h.obj _ _ h1,h2⟩
  |.ig o off sz n cap,u,k=>by
    simp only[av] at k⊢;obtain⟨b,h1,h2⟩:=k;exact⟨b,h.obj _ _ h1,h2⟩
  |.agg cs,u,k=>by
    simp only[av] at k⊢;obtain⟨vs,h1,h2⟩:=k;exact⟨vs,h1,ar.mono h cs vs h2⟩
  |.eu cs,u,k=>by
    simp only[av] at k⊢;obtain⟨vs,h1,h2⟩:=k;exact⟨vs,h1,ar.mono h cs vs h2⟩
  |.qE f cs,u,k=>by
    simp only[av] at k⊢;obtain⟨vs,h1,h2⟩:=k;exact⟨vs,h1,ar.mono h cs vs h2⟩
theorem ar.mono{G G':Gh}(h:G.le G'):∀(cs:List AV)(us:List Value),ar G cs us→ar G' cs us
  |[],us,k=>by simpa[ar] using k
  |c::cs,us,k=>by
    simp only[ar] at k⊢;obtain⟨u,wu,h1,h2,h3⟩:=k;exact⟨u,wu,h1,av.mono h c u h2,ar.mono h cs wu h3⟩
end
theorem ar.length{G:Gh}:∀{cs:List AV}{vs:List Value},ar G cs vs→cs.length=vs.length
  |[],vs,k=>by simp only[ar] at k;simp[k]
  |c::cs,vs,k=>by
    simp only[ar] at k;obtain⟨u,wu,rfl,h2,h3⟩:=k;simp[ar.length h3]
theorem ar.get{G:Gh}:∀{cs:List AV}{vs:List Value},ar G cs vs→∀(i:Nat)(c:AV),cs[i]? =some c→∃u,vs[i]? =some u∧av G c u
  |[],vs,k=>by simp
  |c::cs,vs,k=>by
    simp only[ar] at k;obtain⟨u,wu,rfl,h2,h3⟩:=k;intro i c' hi;cases i with
    |zero=>simp at hi;subst hi;exact⟨u,by simp,h2⟩
    |succ i=>simpa using ar.get h3 i c' (by simpa using hi)
theorem ar.getD{G:Gh}{cs:List AV}{vs:List Value}(h:ar G cs vs)(i:Nat)(hi:i<cs.length):∃u,vs[i]? =some u∧av G (cs.getD i (.v undef)) u:=by
  obtain⟨u,h1,h2⟩:=h.get i (cs[i]) (by simp[hi]);exact⟨u,h1,by simpa[List.getD,hi] using h2⟩
theorem ar.append{G:Gh}:∀{cs ds:List AV}{vs us:List Value},ar G cs vs→ar G ds us→ar G (cs++ds) (vs++us)
  |[],ds,vs,us,h,k=>by simp only[ar] at h;subst h;simpa using k
  |c::cs,ds,vs,us,h,k=>by
    simp only[ar] at h;obtain⟨u,wu,rfl,h2,h3⟩:=h;simp only[List.cons_append,ar];exact⟨u,wu++us,rfl,h2,ar.append h3 k⟩
theorem ar.take{G:Gh}:∀{cs:List AV}{vs:List Value}(n:Nat),ar G cs vs→ar G (cs.take n) (vs.take n)
  |[],vs,n,h=>by simp only[ar] at h;subst h;simp[ar]
  |c::cs,vs,n,h=>by
    simp only[ar] at h;obtain⟨u,wu,rfl,h2,h3⟩:=h;cases n with
    |zero=>simp[ar]
    |succ n=>simp only[List.take_succ_cons,ar];exact⟨u,_,rfl,h2,ar.take n h3⟩
theorem ar.drop{G:Gh}:∀{cs:List AV}{vs:List Value}(n:Nat),ar G cs vs→ar G (cs.drop n) (vs.drop n)
  |[],vs,n,h=>by simp only[ar] at h;subst h;simp[ar]
  |c::cs,vs,n,h=>by
    cases n with
    |zero=>simpa using h
    |succ n=>
      simp only[ar] at h;obtain⟨u,wu,rfl,h2,h3⟩:=h;simpa using ar.drop n h3
theorem ar.set{G:Gh}:∀{cs:List AV}{vs:List Value}(n:Nat){c:AV}{u:Value},ar G cs vs→av G c u→ar G (cs.set n c) (vs.set n u)
  |[],vs,n,c,u,h,k=>by simp only[ar] at h;subst h;simp[ar]
  |x::cs,vs,n,c,u,h,k=>by
    simp only[ar] at h;obtain⟨y,wu,rfl,h2,h3⟩:=h;cases n with
    |zero=>simp only[List.set_cons_zero,ar];exact⟨u,wu,rfl,k,h3⟩
    |succ n=>simp only[List.set_cons_succ,ar];exact⟨y,_,rfl,h2,ar.set n h3 k⟩
theorem ar.DK{G:Gh}:∀(l:List Value),ar G (l.map .v) l
  |[]=>by simp[ar]
  |x::l=>by simp only[List.map_cons,ar];exact⟨x,l,rfl,by simp[av],ar.DK l⟩
structure AS where
  aw:Nat→Option (List AV)
  own:Nat→Option Nat
def aB{α:Type}(f:Nat→α)(d:Nat)(x:α)(i:Nat):α:=if i=d then x else f i
@[simp] theorem bg{α:Type}(f:Nat→α)(d:Nat)(x:α):aB f d x d=x:=by simp[aB]
theorem gQ{α:Type}(f:Nat→α){d i:Nat}(x:α)(h:i≠d):aB f d x i=f i:=by simp[aB,h]
def AS.set(s:AS)(o:Nat)(cs:List AV):AS:={s with aw:=aB s.aw o (some cs)}
def AS.drop(s:AS)(o:Nat):AS:={s with aw:=aB s.aw o none}
def AS.bA(s:AS)(t e:Nat):AS:={s with own:=aB s.own t (some e)}
structure AS.le(s s':AS):Prop where
  aw:∀o cs,s.aw o=some cs→s'.aw o=some cs
  own:∀t e,s.own t=some e→s'.own t=some e
def dn(W W':World):Prop:=∀(k:Nat)(o:Obj),W.heap[k]? =some o→(∀c T f,o≠.cells c T f)→W'.heap[k]? =some o
theorem dn.refl(W:World):dn W W:=fun _ _ h _=>h
theorem dn.trans{A B C:World}(h:dn A B)(k:dn B C):dn A C:=fun i o hi ho=>k i o (h i o hi ho) ho
theorem dn.alloc(W:World)(x:Obj):dn W (W.alloc x):=by
  intro k o hk _;have bJ:k<W.heap.size:=(Array.getElem?_eq_some_iff.1 hk).1;simp only[World.alloc,Array.getElem?_push,if_neg (Nat.ne_of_lt bJ)];exact hk
theorem dn.setCell(W:World)(a:Addr)(v:Value):dn W (W.setCell a v):=by
  intro k o hk ho;simp only[World.setCell,Array.getElem?_modify,hk];split
  · cases o with
    |cells c T f=>exact absurd rfl (ho c T f)
    |_=>rfl
  · rfl
theorem dn.freeze(W:World)(a:Addr)(n:Nat):dn W (W.freeze a n):=by
  unfold World.freeze;split
  · exact dn.refl W
  · intro k o hk ho;simp only[Array.getElem?_modify,hk];split
    · cases o with
      |cells c T f=>exact absurd rfl (ho c T f)
      |_=>rfl
    · rfl
theorem HN(w:World)(o:Obj):(w.alloc o).heap[w.heap.size]? =some o:=by show(w.heap.push o)[w.heap.size]? =some o;simp
def Kn(G:Gh)(s:AS)(b:Nat):Prop:=(∃o,G.obj o=some b)∨∃t e r,s.own t=some e∧G.tok t e=some (b,r)
def IZ(K:Nat→Prop)(w:World):Prop:=∀b c T lo hi,K b→w.heap[b]? =some (.cells c T (lo,hi))→lo=hi∨c.size≤lo
theorem Kn.mono{G:Gh}{s s':AS}{b:Nat}(k:s.le s'):Kn G s b→Kn G s' b
  |.inl h=>.inl h
  |.inr ⟨t,e,r,h1,h2⟩=>.inr ⟨t,e,r,k.own t e h1,h2⟩
variable(Γ:Nat→List AV)
structure aQ(G:Gh)(s:AS)(w:World):Prop where
  ro:∀b j u,G.ro b j=some u→w.cell? ⟨b,j,none⟩=some u
  aw:∀o cs,s.aw o=some cs→∃b vs,G.obj o=some b∧ar G cs vs∧G.B≤b∧(∀j u,vs[j]? =some u→w.cell? ⟨b,j,none⟩=some u∧w.frozen? ⟨b,j,none⟩=false∧G.ro b j=none)
  cX:∀o b,G.obj o=some b→b<w.heap.size
  inj:∀o o' b,G.obj o=some b→G.obj o'=some b→o=o'
  own:∀t e,s.own t=some e→∃b st en,G.tok t e=some (b,st,en)∧st≤en∧G.B≤b∧(∀j,st≤j→j<en→(∃u,w.cell? ⟨b,j,none⟩=some u)∧w.frozen? ⟨b,j,none⟩=false∧G.ro b j=none)∧(∀o,G.obj o≠some b)∧b<w.heap.size
  cJ:∀t e t' e' b st en xa xb,s.own t=some e→s.own t'=some e'→G.tok t e=some (b,st,en)→G.tok t' e'=some (b,xa,xb)→t=t'
  bR:∀t e,s.own t=some e→∀e',e<e'→G.tok t e'=none
  cF:∀o,G.no≤o→G.obj o=none
  cb:∀t,G.nt≤t→∀e,G.tok t e=none
  below:Below G.B G.w0 w
  others:dn G.w0 w
  base:G.B≤w.heap.size
  gZ:∀g,∃vs,ar G (Γ g) vs∧gz G g 0 vs
  soft:IZ (Kn G s) w
variable{Γ}
theorem aQ.mono{G:Gh}{s s':AS}{w:World}(h:aQ Γ G s' w)(k:s.le s'):aQ Γ G s w:=
  ⟨h.ro,fun o cs hc=>h.aw o cs (k.aw o cs hc),h.cX,h.inj,fun t e he=>h.own t e (k.own t e he),
   fun t e t' e' b st en xa xb h1 h2=>h.cJ t e t' e' b st en xa xb (k.own t e h1) (k.own t' e' h2),
   fun t e he=>h.bR t e (k.own t e he),h.cF,h.cb,h.below,h.others,h.base,h.gZ,fun b c T lo hi hb=>h.soft b c T lo hi (hb.mono k)⟩
theorem aQ.xbF{G:Gh}{s:AS}{w:World}(h:aQ Γ G s w){b:Nat}(hb:Kn G s b):b<w.heap.size:=by
  rcases hb with⟨o,ho⟩|⟨t,e,r,h1,h2⟩
  · exact h.cX o b ho
  · obtain⟨b',st,en,k1,_,_,_,_,k6⟩:=h.own t e h1;rw[h2] at k1;cases k1;exact k6
theorem aQ.F5{G:Gh}{s:AS}{w:World}(h:aQ Γ G s w){o:Nat}(ho:G.no≤o):s.aw o=none:=by
  cases hs:s.aw o with
  |none=>rfl
  |some cs=>obtain⟨b,vs,h1,_⟩:=h.aw o cs hs;rw[h.cF o ho] at h1;cases h1
theorem aQ.gR{G:Gh}{s:AS}{w:World}(h:aQ Γ G s w){t:Nat}(ht:G.nt≤t):s.own t=none:=by
  cases hs:s.own t with
  |none=>rfl
  |some e=>obtain⟨b,st,en,h1,_⟩:=h.own t e hs;rw[h.cb t ht] at h1;cases h1
theorem aQ.drew{G:Gh}{s:AS}{w:World}(h:aQ Γ G s w):aQ Γ G s w.drew:=
  ⟨h.ro,h.aw,h.cX,h.inj,h.own,h.cJ,h.bR,h.cF,h.cb,h.below.drew,h.others,h.base,h.gZ,h.soft⟩
theorem rB{w:World}{o:Obj}{b j:Nat}{u:Value}(h:w.cell? ⟨b,j,none⟩=some u):(w.alloc o).cell? ⟨b,j,none⟩=some u:=by
  rw[World.cell?_alloc_lt w o ⟨b,j,none⟩ (World.block_lt_of_cell? w _ h),h]
theorem sH{w:World}{o:Obj}{b j:Nat}(hb:b<w.heap.size):(w.alloc o).frozen? ⟨b,j,none⟩=w.frozen? ⟨b,j,none⟩:=
  World.frozen?_alloc_old w o ⟨b,j,none⟩ (Nat.ne_of_lt hb)
theorem aQ.alloc{G:Gh}{s:AS}{w:World}(h:aQ Γ G s w)(x:Obj)(hx:∀c T lo hi,x=.cells c T (lo,hi)→lo=hi∨c.size≤lo:=by intro c T lo hi e;cases e;exact .inl rfl):aQ Γ G s (w.alloc x) where
  ro b j u hu:=rB (h.ro b j u hu)
  aw o cs hc:=by
    obtain⟨b,vs,h1,h2,h3,h4⟩:=h.aw o cs hc;exact⟨b,vs,h1,h2,h3,fun j u hu=>⟨rB (h4 j u hu).1,by rw[sH (h.cX o b h1)];exact(h4 j u hu).2.1,(h4 j u hu).2.2⟩⟩
  cX o b hb:=by have:=h.cX o b hb;simp;omega
  inj:=h.inj;own t e he:=by
    obtain⟨b,st,en,h1,h2,h3,h4,h5,h6⟩:=h.own t e he;refine⟨b,st,en,h1,h2,h3,fun j hj kg=>?_,h5,by simp;omega⟩;obtain⟨⟨u,hu⟩,h7,h8⟩:=h4 j hj kg;exact⟨⟨u,rB hu⟩,by rw[sH h6];exact h7,h8⟩
  cJ:=h.cJ;bR:=h.bR;cF:=h.cF;cb:=h.cb;below:=h.below.alloc h.base _;others:=h.others.trans (dn.alloc _ _);base:=by have:=h.base;simp;omega
  gZ:=h.gZ;soft b c T lo hi hb hc:=by
    simp only[World.alloc,Array.getElem?_push] at hc;split at hc
    · cases hc;exact hx _ _ _ _ rfl
    · exact h.soft b c T lo hi hb hc
def Gh.eN(G:Gh)(o b:Nat):Gh:={G with obj:=aB G.obj o (some b),no:=max G.no (o+1)}
theorem Gh.I0{G:Gh}{o:Nat}(b:Nat)(ho:G.obj o=none):G.le (G.eN o b):=
  ⟨fun _ _ _ h=>h,fun o' b' h=>by
    by_cases e:o'=o
    · subst e;rw[ho] at h;cases h
    · simpa[Gh.eN,aB,e] using h,fun _ _ _ h=>h,rfl,rfl,rfl⟩
theorem aQ.newObj{G:Gh}{s:AS}{w:World}(h:aQ Γ G s w){cs:List AV}{vs:List Value}(hv:ar G cs vs)(T:TypeId):
    ∃o,s.aw o=none∧G.le (G.eN o w.heap.size)∧aQ Γ (G.eN o w.heap.size) (s.set o cs) (w.alloc (.cells vs.toArray T))∧(G.eN o w.heap.size).obj o=some w.heap.size:=by
  have ho:G.obj G.no=none:=h.cF _ (Nat.le_refl _);have hle:=Gh.I0 w.heap.size ho;refine⟨G.no,h.F5 (Nat.le_refl _),hle,?_,by simp[Gh.eN]⟩;have h':=h.alloc (.cells vs.toArray T);constructor;case ro=>exact h'.ro
  case aw=>
    intro o cs' hc;by_cases e:o=G.no
    · subst e;simp[AS.set] at hc;subst hc;refine⟨w.heap.size,vs,by simp[Gh.eN],ar.mono hle _ _ hv,h.base,fun j u hu=>⟨by simpa using hu,World.frozen?_alloc_new ..,?_⟩⟩;cases hr:(G.eN G.no w.heap.size).ro w.heap.size j with
      |none=>rfl
      |some x=>exact absurd (World.block_lt_of_cell? w _ (h.ro _ _ _ hr)) (Nat.lt_irrefl _)
    · simp[AS.set,aB,e] at hc;obtain⟨b,us,h1,h2,h3,h4⟩:=h'.aw o cs' hc;exact⟨b,us,hle.obj _ _ h1,ar.mono hle _ _ h2,h3,h4⟩
  case cX=>
    intro o b hb;by_cases e:o=G.no
    · subst e;simp[Gh.eN] at hb;subst hb;simp
    · simp[Gh.eN,aB,e] at hb;exact h'.cX o b hb
  case inj=>
    intro o o' b h1 h2;by_cases e:o=G.no<;>by_cases e':o'=G.no
    · rw[e,e']
    · subst e;simp[Gh.eN,aB,e'] at h1 h2;subst h1;exact absurd (h.cX _ _ h2) (Nat.lt_irrefl _)
    · subst e';simp[Gh.eN,aB,e] at h1 h2;subst h2;exact absurd (h.cX _ _ h1) (Nat.lt_irrefl _)
    · simp[Gh.eN,aB,e,e'] at h1 h2;exact h.inj o o' b h1 h2
  case own=>
    intro t e he;obtain⟨b,st,en,h1,h2,h3,h4,h5,h6⟩:=h'.own t e he;obtain⟨b1,Ve,Vf,k1,_,_,_,_,k6⟩:=h.own t e he;refine⟨b,st,en,h1,h2,h3,h4,fun o sI=>?_,h6⟩;by_cases e':o=G.no
    · subst e';simp[Gh.eN] at sI;rw[h1] at k1;simp at k1;omega
    · simp[Gh.eN,aB,e'] at sI;exact h5 o sI
  case cJ=>exact h'.cJ
  case bR=>exact h'.bR
  case cF=>
    intro o sI;simp[Gh.eN] at sI;have :o≠G.no:=(by omega);simp[Gh.eN,aB,this];exact h.cF o (by omega)
  case cb=>exact h'.cb
  case below=>exact h'.below
  case others=>exact h'.others
  case base=>exact h'.base
  case soft=>
    rintro b c T' lo hi hb hc;rcases hb with⟨o',sI⟩|⟨t,e,r,h1,h2⟩
    · by_cases e:o'=G.no
      · subst e;simp only[Gh.eN,bg,Option.some.injEq] at sI;subst sI;rw[HN] at hc;cases hc;exact .inl rfl
      · exact h'.soft b c T' lo hi (.inl ⟨o',by simpa[Gh.eN,aB,e] using sI⟩) hc
    · exact h'.soft b c T' lo hi (.inr ⟨t,e,r,h1,h2⟩) hc
  case gZ=>
    intro g;obtain⟨us,h1,h2⟩:=h.gZ g;exact⟨us,ar.mono hle _ _ h1,h2.mono hle⟩
def Gh.eT(G:Gh)(b off:Nat)(vs:List Value):Gh:=
  {G with ro:=fun b' j=>if b'=b∧off≤j∧j<off+vs.length then vs[j-off]? else G.ro b' j}
theorem Gh.xq{G:Gh}{b off:Nat}{vs:List Value}(h:∀j,off≤j→j<off+vs.length→G.ro b j=none):G.le (G.eT b off vs):=by
  refine⟨fun b' j u hu=>?_,fun _ _ h=>h,fun _ _ _ h=>h,rfl,rfl,rfl⟩;simp only[Gh.eT];split
  · rename_i hc;obtain⟨rfl,h1,h2⟩:=hc;rw[h j h1 h2] at hu;cases hu
  · exact hu
theorem gz.added(G:Gh)(b off:Nat)(vs:List Value):gz (G.eT b off vs) b off vs:=by
  intro j u hu;have hj:j<vs.length:=by
    rcases Nat.lt_or_ge j vs.length with h|h
    · exact h
    · simp[List.getElem?_eq_none h] at hu
  simp only[Gh.eT];rw[if_pos ⟨trivial,by omega,by omega⟩];simpa using hu
theorem rC{G:Gh}{s:AS}{w:World}(h:aQ Γ G s w)(j:Nat):G.ro w.heap.size j=none:=by
  cases hr:G.ro w.heap.size j with
  |none=>rfl
  |some x=>exact absurd (World.block_lt_of_cell? w _ (h.ro _ _ _ hr)) (Nat.lt_irrefl _)
theorem aQ.QS{G:Gh}{s:AS}{w:World}(h:aQ Γ G s w)(vs:List Value)(c:Array Value)(T:TypeId)(hc:∀(j:Nat)(u:Value),vs[j]? =some u→c[j]? =some u):
    G.le (G.eT w.heap.size 0 vs)∧aQ Γ (G.eT w.heap.size 0 vs) s (w.alloc (.cells c T)):=by
  have hle:G.le (G.eT w.heap.size 0 vs):=Gh.xq fun j _ _=>rC h j;refine⟨hle,?_⟩;have h':=h.alloc (.cells c T);have qi:∀b j,b≠w.heap.size→(G.eT w.heap.size 0 vs).ro b j=G.ro b j:=(fun b j hb=>by simp[Gh.eT,hb]);constructor;case ro=>
    intro b j u hu;by_cases e:b=w.heap.size
    · subst e;simp only[Gh.eT] at hu;split at hu
      · rename_i hj;rw[World.cell?_alloc_new];exact hc j u (by simpa using hu)
      · rw[rC h j] at hu;cases hu
    · rw[qi b j e] at hu;exact h'.ro b j u hu
  case aw=>
    intro o cs ho;obtain⟨b,us,h1,h2,h3,h4⟩:=h'.aw o cs ho;refine⟨b,us,h1,ar.mono hle _ _ h2,h3,fun j u hu=>⟨(h4 j u hu).1,(h4 j u hu).2.1,?_⟩⟩;rw[qi b j (Nat.ne_of_lt (h.cX o b h1))];exact(h4 j u hu).2.2
  case cX=>exact h'.cX
  case inj=>exact h'.inj
  case own=>
    intro t e he;obtain⟨b,st,en,h1,h2,h3,h4,h5,h6⟩:=h'.own t e he;obtain⟨b1,Ve,Vf,k1,_,_,_,_,k6⟩:=h.own t e he;rw[h1] at k1;simp at k1;refine⟨b,st,en,h1,h2,h3,fun j hj kg=>⟨(h4 j hj kg).1,(h4 j hj kg).2.1,?_⟩,h5,h6⟩;rw[qi b j (by omega)];exact(h4 j hj kg).2.2
  case cJ=>exact h'.cJ
  case bR=>exact h'.bR
  case cF=>exact h'.cF
  case cb=>exact h'.cb
  case below=>exact h'.below
  case others=>exact h'.others
  case base=>exact h'.base
  case soft=>exact h'.soft
  case gZ=>
    intro g;obtain⟨us,h1,h2⟩:=h.gZ g;exact⟨us,ar.mono hle _ _ h1,h2.mono hle⟩
theorem sJ{K:Nat→Prop}{w:World}(h:IZ K w){a:Addr}{u:Value}:
    ∀b c T lo hi,K b→(w.setCell a u).heap[b]? =some (.cells c T (lo,hi))→lo=hi∨c.size≤lo:=by
  intro b c T lo hi hb hc;simp only[World.setCell,Array.getElem?_modify] at hc;split at hc
  · cases hh:w.heap[b]? with
    |none=>simp[hh] at hc
    |some o=>
      simp only[hh,Option.map_some,Option.some.injEq] at hc;cases o with
      |cells c' T' fr=>
        obtain⟨Sn,aY⟩:=fr;simp only[Obj.cells.injEq,Prod.mk.injEq] at hc;obtain⟨h1,rfl,rfl,rfl⟩:=hc;have:=h b c' T' Sn aY hb hh;have hs:c.size=c'.size:=by
          rw[←h1];split <;>simp
        omega
      |_=>cases hc
  · exact h b c T lo hi hb hc
theorem aQ.setCell{G:Gh}{s:AS}{w:World}(h:aQ Γ G s w){o b i:Nat}{cs:List AV}{c:AV}{u:Value}(ho:s.aw o=some cs)(hb:G.obj o=some b)(hi:i<cs.length)(hc:av G c u):
    (∃u0,w.cell? ⟨b,i,none⟩=some u0)∧w.frozen? ⟨b,i,none⟩=false∧aQ Γ G (s.set o (cs.set i c)) (w.setCell ⟨b,i,none⟩ u):=by
  obtain⟨b',vs,h1,h2,h3,h4⟩:=h.aw o cs ho;rw[hb] at h1;cases h1;have hl:=h2.length;have hiv:vs[i]? =some vs[i]:=(by simp);obtain⟨xc,zE,hc3⟩:=h4 i _ hiv;refine⟨⟨_,xc⟩,zE,?_⟩;have cY:∀(b' j':Nat),(b'≠b∨j'≠i)→(w.setCell ⟨b,i,none⟩ u).cell? ⟨b',j',none⟩=w.cell? ⟨b',j',none⟩:=by
    intro b' j' hd;refine World.cell?_setCell_other _ _ _ _ ?_;intro e;simp at e;omega
  constructor;case ro=>
    intro b' j' u' Oh;rw[cY]
    · exact h.ro b' j' u' Oh
    · by_cases e:b'=b
      · subst e;right;intro e;subst e;rw[hc3] at Oh;cases Oh
      · exact .inl e
  case aw=>
    intro o' cs' QT;by_cases e:o'=o
    · subst e;simp[AS.set] at QT;subst QT;refine⟨b,vs.set i u,hb,h2.set i hc,h3,fun j y hy=>?_⟩;by_cases e:j=i
      · subst e;rw[List.getElem?_set_self (by omega)] at hy;cases hy;exact⟨World.cell?_setCell_same _ _ _ xc,by simpa using zE,hc3⟩
      · rw[List.getElem?_set_ne (by omega)] at hy;rw[cY _ _ (.inr e)];obtain⟨k1,k2,k3⟩:=h4 j y hy;exact⟨k1,by simpa using k2,k3⟩
    · simp[AS.set,aB,e] at QT;obtain⟨b',us,k1,k2,k3,k4⟩:=h.aw o' cs' QT;refine⟨b',us,k1,k2,k3,fun j y hy=>?_⟩;have BZ:b'≠b:=fun e'=>e (h.inj o' o b (e' ▸ k1) hb);rw[cY _ _ (.inl BZ)];obtain⟨l1,l2,l3⟩:=k4 j y hy;exact⟨l1,by simpa using l2,l3⟩
  case cX=>intro o b hb;simpa using h.cX o b hb
  case inj=>exact h.inj
  case own=>
    intro t e he;obtain⟨b',st,en,k1,k2,k3,k4,k5,k6⟩:=h.own t e he;refine⟨b',st,en,k1,k2,k3,fun j hj kg=>?_,k5,by simpa using k6⟩;have BZ:b'≠b:=fun e'=>k5 o (e' ▸ hb);rw[cY _ _ (.inl BZ)];obtain⟨l1,l2,l3⟩:=k4 j hj kg;exact⟨l1,by simpa using l2,l3⟩
  case cJ=>exact h.cJ
  case bR=>exact h.bR
  case cF=>exact h.cF
  case cb=>exact h.cb
  case below=>exact h.below.setCell h3 _
  case others=>exact h.others.trans (dn.setCell _ _ _)
  case base=>simpa using h.base
  case soft=>exact sJ h.soft
  case gZ=>exact h.gZ
theorem aQ.freeze{G:Gh}{s:AS}{w:World}(h:aQ Γ G s w){o:Nat}{cs:List AV}(ho:s.aw o=some cs):
    ∃b vs,G.obj o=some b∧ar G cs vs∧G.le (G.eT b 0 vs)∧gz (G.eT b 0 vs) b 0 vs∧aQ Γ (G.eT b 0 vs) (s.drop o) w:=by
  obtain⟨b,vs,h1,h2,h3,h4⟩:=h.aw o cs ho;have hle:G.le (G.eT b 0 vs):=Gh.xq fun j _ hj=>by
    have hj:j<vs.length:=(by omega);exact(h4 j vs[j] (by simp)).2.2
  have qi:∀b' j,b'≠b→(G.eT b 0 vs).ro b' j=G.ro b' j:=(fun b' j hb=>by simp[Gh.eT,hb]);refine⟨b,vs,h1,h2,hle,gz.added G b 0 vs,?_⟩;constructor;case ro=>
    intro b' j u hu;by_cases e:b'=b
    · subst e;simp only[Gh.eT] at hu;split at hu
      · exact(h4 j u (by simpa using hu)).1
      · exact h.ro _ j u hu
    · rw[qi b' j e] at hu;exact h.ro b' j u hu
  case aw=>
    intro o' cs' sI;by_cases e:o'=o
    · subst e;simp[AS.drop] at sI
    · simp[AS.drop,aB,e] at sI;obtain⟨b',us,k1,k2,k3,k4⟩:=h.aw o' cs' sI;have BZ:b'≠b:=fun e'=>e (h.inj o' o b (e' ▸ k1) h1);refine⟨b',us,k1,ar.mono hle _ _ k2,k3,fun j u hu=>⟨(k4 j u hu).1,(k4 j u hu).2.1,?_⟩⟩;rw[qi b' j BZ];exact(k4 j u hu).2.2
  case cX=>exact h.cX
  case inj=>exact h.inj
  case own=>
    intro t e he;obtain⟨b',st,en,k1,k2,k3,k4,k5,k6⟩:=h.own t e he;have BZ:b'≠b:=fun e'=>k5 o (e' ▸ h1);refine⟨b',st,en,k1,k2,k3,fun j hj kg=>⟨(k4 j hj kg).1,(k4 j hj kg).2.1,?_⟩,k5,k6⟩;rw[qi b' j BZ];exact(k4 j hj kg).2.2
  case cJ=>exact h.cJ
  case bR=>exact h.bR
  case cF=>exact h.cF
  case cb=>exact h.cb
  case below=>exact h.below
  case others=>exact h.others
  case base=>exact h.base
  case soft=>exact h.soft
  case gZ=>
    intro g;obtain⟨us,h1,h2⟩:=h.gZ g;exact⟨us,ar.mono hle _ _ h1,h2.mono hle⟩
def Gh.ij(G:Gh)(t e:Nat)(r:Nat×Nat×Nat):Gh:=
  {G with tok:=fun t' e'=>if t'=t∧e'=e then some r else G.tok t' e',nt:=max G.nt (t+1)}
theorem Gh.I4{G:Gh}{t e:Nat}(r:Nat×Nat×Nat)(h:G.tok t e=none):G.le (G.ij t e r):=by
  refine⟨fun _ _ _ h=>h,fun _ _ h=>h,fun t' e' r' hr=>?_,rfl,rfl,rfl⟩;simp only[Gh.ij];split
  · rename_i hc;obtain⟨rfl,rfl⟩:=hc;rw[h] at hr;cases hr
  · exact hr
theorem aQ.bA{G:Gh}{s:AS}{w:World}(h:aQ Γ G s w){t e b st en:Nat}(hn:G.tok t e=none)(hl:∀e',e<e'→G.tok t e'=none)
    (h1:st≤en) (h2:G.B≤b) (h3:∀j,st≤j→j<en→(∃u,w.cell? ⟨b,j,none⟩=some u)∧w.frozen? ⟨b,j,none⟩=false∧G.ro b j=none) (h4:∀o,G.obj o≠some b) (h5:b<w.heap.size)
    (h6:∀t' e' xa xb,t'≠t→s.own t'=some e'→G.tok t' e'≠some (b,xa,xb)) (h7:∀c T lo hi,w.heap[b]? =some (.cells c T (lo,hi))→lo=hi∨c.size≤lo):
    G.le (G.ij t e (b,st,en))∧aQ Γ (G.ij t e (b,st,en)) (s.bA t e) w:=by
  have hle:=Gh.I4 (b,st,en) hn;refine⟨hle,?_⟩;have mP:∀t' e',t'≠t→(G.ij t e (b,st,en)).tok t' e'=G.tok t' e':=(fun t' e' cY=>by simp[Gh.ij,cY]);constructor;case ro=>exact h.ro
  case aw=>
    intro o cs ho;obtain⟨b',us,k1,k2,k3,k4⟩:=h.aw o cs ho;exact⟨b',us,k1,ar.mono hle _ _ k2,k3,k4⟩
  case cX=>exact h.cX
  case inj=>exact h.inj
  case own=>
    intro t' e' he;by_cases ht:t'=t
    · subst ht;simp[AS.bA] at he;subst he;exact⟨b,st,en,by simp[Gh.ij],h1,h2,h3,h4,h5⟩
    · simp[AS.bA,aB,ht] at he;obtain⟨b',xa,xb,k1,k2,k3,k4,k5,k6⟩:=h.own t' e' he;exact⟨b',xa,xb,by rw[mP _ _ ht];exact k1,k2,k3,k4,k5,k6⟩
  case cJ=>
    intro t1 e1 t2 e2 b' Ve Vf Vg en2 o1 o2 k1 k2;by_cases c1:t1=t<;>by_cases c2:t2=t
    · rw[c1,c2]
    · subst c1;simp[AS.bA,aB,c2] at o1 o2;subst o1;rw[mP _ _ c2] at k2;simp[Gh.ij] at k1;obtain⟨rfl,rfl,rfl⟩:=k1;exact absurd k2 (h6 t2 e2 _ _ c2 o2)
    · subst c2;simp[AS.bA,aB,c1] at o1 o2;subst o2;rw[mP _ _ c1] at k1;simp[Gh.ij] at k2;obtain⟨rfl,rfl,rfl⟩:=k2;exact absurd k1 (h6 t1 e1 _ _ c1 o1)
    · simp[AS.bA,aB,c1,c2] at o1 o2;rw[mP _ _ c1] at k1;rw[mP _ _ c2] at k2;exact h.cJ t1 e1 t2 e2 b' Ve Vf Vg en2 o1 o2 k1 k2
  case bR=>
    intro t' e' he e'' bJ;by_cases ht:t'=t
    · subst ht;simp[AS.bA] at he;subst he;have :e''≠e:=(by omega);simp[Gh.ij,this,hl e'' bJ]
    · simp[AS.bA,aB,ht] at he;rw[mP _ _ ht];exact h.bR t' e' he e'' bJ
  case cF=>exact h.cF
  case cb=>
    intro t' nF e';simp only[Gh.ij] at nF;rw[mP _ _ (by omega)];exact h.cb t' (by omega) e'
  case below=>exact h.below
  case others=>exact h.others
  case base=>exact h.base
  case soft=>
    rintro b' c T' lo hi hb hc;rcases hb with⟨o',sI⟩|⟨t',e',r,q1,q2⟩
    · exact h.soft b' c T' lo hi (.inl ⟨o',sI⟩) hc
    · by_cases ht:t'=t
      · subst ht;simp[AS.bA] at q1;subst q1;simp[Gh.ij] at q2;exact h7 c T' lo hi (by rw[q2.1];exact hc)
      · simp[AS.bA,aB,ht] at q1;rw[mP _ _ ht] at q2;exact h.soft b' c T' lo hi (.inr ⟨t',e',r,q1,q2⟩) hc
  case gZ=>
    intro g;obtain⟨us,h1,h2⟩:=h.gZ g;exact⟨us,ar.mono hle _ _ h1,h2.mono hle⟩
structure Gh.sub(G G':Gh):Prop where
  ro:G'.ro=G.ro
  obj:G'.obj=G.obj
  tok:G'.tok=G.tok
  B:G'.B=G.B
theorem gz.sub{G G':Gh}(h:G.sub G'){b off:Nat}{vs:List Value}(k:gz G b off vs):gz G' b off vs:=fun j u hj=>by rw[h.ro];exact k j u hj
theorem eC.sub{G G':Gh}(h:G.sub G'){b off sz n cap:Nat}{sp:Sp}(k:eC G b off sz n cap sp):eC G' b off sz n cap sp:=by
  cases sp with
  |no=>trivial
  |any=>trivial
  |full=>exact k
  |new=>exact⟨k.1,by rw[h.B];exact k.2⟩
  |own t e=>simp only[eC] at k⊢;rw[h.tok];exact k
mutual
theorem av.sub{G G':Gh}(h:G.sub G'):∀(c:AV)(u:Value),av G c u→av G' c u
  |.v x,u,k=>by simpa[av] using k
  |.sl sz n cs sp,u,k=>by
    simp only[av] at k⊢;rcases k with⟨b,off,cap,vs,h1,h2,h3,h4,h5,h6⟩|k
    · exact .inl ⟨b,off,cap,vs,h1,h2,h3,ar.sub h cs vs h4,h5.sub h,h6.sub h⟩
    · exact .inr k
  |.cN cs,u,k=>by
    simp only[av] at k⊢;obtain⟨b,off,vs,h1,h4,h5⟩:=k;exact⟨b,off,vs,h1,ar.sub h cs vs h4,h5.sub h⟩
  |.ptr o off,u,k=>by
    simp only[av] at k⊢;rw[h.obj];exact k
  |.ig o off sz n cap,u,k=>by
    simp only[av] at k⊢;rw[h.obj];exact k
  |.agg cs,u,k=>by
    simp only[av] at k⊢;obtain⟨vs,h1,h2⟩:=k;exact⟨vs,h1,ar.sub h cs vs h2⟩
  |.eu cs,u,k=>by
    simp only[av] at k⊢;obtain⟨vs,h1,h2⟩:=k;exact⟨vs,h1,ar.sub h cs vs h2⟩
  |.qE f cs,u,k=>by
    simp only[av] at k⊢;obtain⟨vs,h1,h2⟩:=k;exact⟨vs,h1,ar.sub h cs vs h2⟩
theorem ar.sub{G G':Gh}(h:G.sub G'):∀(cs:List AV)(us:List Value),ar G cs us→ar G' cs us
  |[],us,k=>by simpa[ar] using k
  |c::cs,us,k=>by
    simp only[ar] at k⊢;obtain⟨u,wu,h1,h2,h3⟩:=k;exact⟨u,wu,h1,av.sub h c u h2,ar.sub h cs wu h3⟩
end
theorem aQ.sub{G G':Gh}(k:G.sub G'){s:AS}{w:World}(h:aQ Γ G s w)(vz:G'.no=G.no)(hnt:G'.nt=G.nt)(hb:Below G.B G'.w0 w)(hk:dn G'.w0 w):aQ Γ G' s w where
  ro:=by rw[k.ro];exact h.ro
  aw o cs ho:=by
    obtain⟨b,us,k1,k2,k3,k4⟩:=h.aw o cs ho;exact⟨b,us,by rw[k.obj];exact k1,ar.sub k _ _ k2,by rw[k.B];exact k3,by rw[k.ro];exact k4⟩
  cX:=by rw[k.obj];exact h.cX
  inj:=by rw[k.obj];exact h.inj
  own:=by rw[k.tok,k.B,k.ro,k.obj];exact h.own
  cJ:=by rw[k.tok];exact h.cJ
  bR:=by rw[k.tok];exact h.bR
  cF:=by rw[k.obj,vz];exact h.cF
  cb:=by rw[k.tok,hnt];exact h.cb
  below:=by rw[k.B];exact hb
  others:=hk;base:=by rw[k.B];exact h.base
  soft b c T lo hi hb:=h.soft b c T lo hi (by simpa only[Kn,k.obj,k.tok] using hb);gZ g:=by
    obtain⟨us,h1,h2⟩:=h.gZ g;exact⟨us,ar.sub k _ _ h1,h2.sub k⟩
def Gh.cO(G:Gh)(d:List Deferred):Gh:={G with df:=d}
theorem Gh.AK(G:Gh)(d:List Deferred):G.sub (G.cO d):=⟨rfl,rfl,rfl,rfl⟩
theorem av.cO{G:Gh}{d:List Deferred}(c:AV)(u:Value)(h:av G c u):av (G.cO d) c u:=av.sub (G.AK d) c u h
theorem aQ.cO{G:Gh}{s:AS}{w:World}{d:List Deferred}(h:aQ Γ G s w):aQ Γ (G.cO d) s w:=h.sub (G.AK d) rfl rfl h.below h.others
theorem Gh.xr{G G':Gh}{d:List Deferred}(h:(G.cO d).le G'):G.le (G'.cO G.df):=
  ⟨h.ro,h.obj,h.tok,h.B,h.w0,rfl⟩
def Gh.setW(G:Gh)(w:World):Gh:={G with w0:=w}
theorem Gh.gA(G:Gh)(w:World):G.sub (G.setW w):=⟨rfl,rfl,rfl,rfl⟩
theorem aQ.setW{G:Gh}{s:AS}{w:World}(h:aQ Γ G s w):aQ Γ (G.setW w) s w:=h.sub (G.gA w) rfl rfl (Below.refl _ _) (dn.refl _)
theorem aQ.sK{G G':Gh}{s s':AS}{w w':World}(h:aQ Γ G s w)(hle:(G.setW w).le G')(h':aQ Γ G' s' w'):aQ Γ (G'.setW G.w0) s' w'∧G.le (G'.setW G.w0):=by
  have hw:G'.w0=w:=hle.w0;have hB:G'.B=G.B:=hle.B;refine⟨h'.sub (G'.gA _) rfl rfl ?_ ?_,⟨hle.ro,hle.obj,hle.tok,hle.B,rfl,hle.df⟩⟩
  · have:=h'.below;rw[hw,hB] at this;rw[hB];exact h.below.trans this
  · have:=h'.others;rw[hw] at this;exact h.others.trans this
end Go.AM
namespace Go.AM
open Go Go.RowKit
def ae(b:UInt8):AV:=.v (.int .u8 b.toNat)
def byteOf:AV→UInt8
  |.v (.int _ n)=>UInt8.ofNat n.toNat
  |_=>0
def isByte:AV→Bool
  |.v (.int .u8 _)=>true
  |_=>false
def kW(cs:List AV):ByteArray:=⟨(cs.map byteOf).toArray⟩
@[simp] theorem Oi(b:UInt8):byteOf (ae b)=b:=by simp[byteOf,ae]
@[simp] theorem Oj(b:UInt8):isByte (ae b)=true:=rfl
@[simp] theorem dC(l:List UInt8):kW (l.map ae)=⟨l.toArray⟩:=by
  simp[kW,Function.comp_def]
@[simp] theorem di(l:List UInt8):(l.map ae).all isByte=true:=by simp
def AV.cells:AV→List AV
  |.agg cs=>cs
  |.v (.agg c)=>c.toList.map .v
  |x=>[x]
def AV.one:AV→Bool
  |.agg _|.eu _|.v (.agg _)|.v (.tuple _)=>false
  |_=>true
@[simp] theorem UC(b:UInt8):(ae b).one=true:=rfl
def bM(P:Program)(t:TypeId):Option Bool:=
  match P.underlying t with
  |some (.struct _)|some (.array _ _)=>some true
  |some _=>some false
  |none=>none
def b6(P:Program)(t:TypeId)(i:Nat):Option (Nat×TypeId):=
  match P.underlying t with
  |some (.struct fs)=>(fs[i]?).map fun f=>(f.offset,f.type)
  |_=>none
def fm(P:Program)(t:TypeId):Bool:=
  match P.underlying t with
  |some (.struct fs)=>fs.all fun f=>(P.info? f.type).isSome
  |_=>false
def placeOf(P:Program)(t:TypeId)(i:Nat):Option (Nat×Nat):=
  match b6 P t i with
  |some (o,u)=>some (o,P.cellsOf u)
  |none=>none
def bo(P:Program)(t:TypeId):Option (List AV):=
  ((P.info? t).bind (·.zero)).map fun z=>z.cells.toList.map .v
def nG(n:Nat)(z:List AV):List AV:=(List.range n).map fun i=>z.getD (i%z.length) (.v default)
theorem DL(n:Nat)(x:AV):nG n [x]=List.replicate n x:=by
  apply List.ext_getElem
  · simp[nG]
  · intro i h1 h2;simp[nG,Nat.mod_one]
def apart(P:Program)(t:TypeId)(cs:List AV)(off:Nat):Option AV:=
  match bM P t with
  |some true=>some (.agg ((cs.drop off).take (P.cellsOf t)))
  |some false=>cs[off]?
  |none=>none
def bp(cells:List AV)(off:Nat):List AV→List AV
  |[]=>cells
  |x::xs=>bp (cells.set off x) (off+1) xs
def iY(place:Nat→Option (Nat×Nat))(cells:List AV):List (Nat×AV)→Option (List AV)
  |[]=>some cells
  |(i,v)::rest=>
    match place i with
    |none=>none
    |some (off,size)=>
      if v.cells.length≠size∨off+v.cells.length>cells.length then none
      else iY place (bp cells off v.cells) rest
def oC(P:Program)(t:TypeId)(cs:List AV):Option AV:=
  match bM P t with
  |some true=>if P.cellsOf t≤cs.length then some (.agg (cs.take (P.cellsOf t))) else none
  |some false=>cs[0]?
  |none=>none
def dQ(k:IntKind)(a b:Int):Int:=k.wrap (a+b)
def dr(k:IntKind)(a b:Int):Int:=k.wrap (a-b)
def ia(k:IntKind)(a b:Int):Int:=k.wrap (a*b)
def kX(k:IntKind)(a b:Int):Int:=k.wrap (a.tdiv b)
def iW(a b:Int):Int:=a.tmod b
def mr(k:IntKind)(a b:Int):Int:=k.wrap (BitVec.ofInt k.bits a &&& BitVec.ofInt k.bits b).toNat
def F6(k:IntKind)(a b:Int):Int:=k.wrap (BitVec.ofInt k.bits a ||| BitVec.ofInt k.bits b).toNat
def DP(k:IntKind)(a b:Int):Int:=k.wrap (BitVec.ofInt k.bits a ^^^ BitVec.ofInt k.bits b).toNat
def HO(k:IntKind)(a b:Int):Int:=k.wrap (BitVec.ofInt k.bits a &&& ~~~ BitVec.ofInt k.bits b).toNat
def kC(k:IntKind)(a b:Int):Int:=k.wrap (a*2^(min b.toNat k.bits))
def eU(k:IntKind)(a b:Int):Int:=a.fdiv (2^(min b.toNat k.bits))
def DQ(k:IntKind)(a:Int):Int:=k.wrap (0-a)
def Kv(k:IntKind)(a:Int):Int:=k.wrap (BitVec.ofInt k.bits (if k.signed then -1 else k.max) ^^^ BitVec.ofInt k.bits a).toNat
def cE(k:IntKind)(a:Int):Int:=k.wrap a
def fo(op:BinOp)(k:IntKind)(a b:Int):Option AV:=
  match op with
  |.add=>some (.v (.int k (dQ k a b)))
  |.sub=>some (.v (.int k (dr k a b)))
  |.mul=>some (.v (.int k (ia k a b)))
  |.quo=>if b=0 then none else some (.v (.int k (kX k a b)))
  |.rem=>if b=0 then none else some (.v (.int k (iW a b)))
  |.and=>some (.v (.int k (mr k a b)))
  |.or=>some (.v (.int k (F6 k a b)))
  |.xor=>some (.v (.int k (DP k a b)))
  |.andNot=>some (.v (.int k (HO k a b)))
  |.eql=>some (.v (.bool (a==b)))
  |.neq=>some (.v (.bool (a != b)))
  |.lss=>some (.v (.bool (a<b)))
  |.leq=>some (.v (.bool (a≤b)))
  |.gtr=>some (.v (.bool (a>b)))
  |.geq=>some (.v (.bool (a≥b)))
  |_=>none
def ashift(op:BinOp)(k:IntKind)(a b:Int):Option AV:=
  if b<0 then none else
  match op with
  |.shl=>some (.v (.int k (kC k a b)))
  |.shr=>some (.v (.int k (eU k a b)))
  |_=>none
def xt(op:BinOp)(x y:ByteArray):Option AV:=
  match op with
  |.add=>if((x.size+y.size:Nat):Int)>IntKind.i64.max then none else some (.v (.string (x++y)))
  |.eql=>some (.v (.bool (x.toList==y.toList)))
  |.neq=>some (.v (.bool !(x.toList==y.toList)))
  |_=>none
def vA(P:Program)(T:TypeId)(op:BinOp)(x y:Bool):Option AV:=
  match op,P.underlying T with
  |.eql,some .bool=>some (.v (.bool (x==y)))
  |.neq,some .bool=>some (.v (.bool !(x==y)))
  |_,_=>none
def nf(op:BinOp)(t:Bool):Option AV:=
  match op with
  |.eql=>some (.v (.bool t))
  |.neq=>some (.v (.bool !t))
  |_=>none
def I5(P:Program):Nat→List Field→List AV→List AV→Option Bool
  |_,[],_,_=>some true
  |i,f::fs,.v (.int k a)::xs,.v (.int k' b)::ys=>
    match P.underlying f.type with
    | some (.int _)=>if k = k'∧f.name ≠ "_"∧f.offset = i then (I5 P (i + 1) fs xs ys).map fun r=>(a == b) && r else none
    |_=>none
  |_,_,_,_=>none
def DR(P:Program)(T:TypeId)(op:BinOp)(xs ys:List AV):Option AV:=
  if P.stoodInHeld T=false∧P.eqGuardType P.depth T=false then
    match P.underlying T with
    |some (.struct fs)=>match I5 P 0 fs.toList xs ys with |some b=>nf op b|none=>none
    |_=>none
  else none
def dH(P:Program)(t:TypeId):Bool:=match P.underlying t with |some (.slice _)=>true|_=>false
def lF(P:Program)(t:TypeId):Bool:=match P.underlying t with |some (.pointer _)=>true|_=>false
def ik(P:Program)(op:BinOp)(T:TypeId):AV→AV→Option AV
  |.v (.int k a),.v (.int k' b)=>
    match op with
    |.shl=>ashift .shl k a b
    |.shr=>ashift .shr k a b
    |op=>if k=k' then fo op k a b else none
  |.v (.bool a),.v (.bool b)=>vA P T op a b
  |.v (.string a),.v (.string b)=>xt op a b
  |.v (.slice none _ _),.v (.slice none _ _)=>if dH P T=true then nf op true else none
  |.sl _ n _ sp,.v (.slice none _ _)=>if dH P T=true∧¬(n=0∧sp.isAny=true) then nf op false else none
  |.ig _ _ _ _ _,.v (.slice none _ _)=>if dH P T=true then nf op false else none
  |.v (.pointer none),.v (.pointer none)=>if lF P T=true then nf op true else none
  |.ptr _ _,.v (.pointer none)=>if lF P T=true then nf op false else none
  |.v (.pointer none),.ptr _ _=>if lF P T=true then nf op false else none
  |.agg xs,.agg ys=>DR P T op xs ys
  |_,_=>none
def F7(op:UnOp):AV→Option AV
  |.v (.int k n)=>
    match op with
    |.neg=>some (.v (.int k (DQ k n)))
    |.xor=>some (.v (.int k (Kv k n)))
    |_=>none
  |.v (.bool b)=>match op with |.not=>some (.v (.bool !b))|_=>none
  |_=>none
def aconv(P:Program)(src dst:TypeId)(x:AV):Option AV:=
  match P.underlying src,P.underlying dst,x with
  |some (.int _),some (.int k),.v (.int _ n)=>some (.v (.int k (cE k n)))
  |some .string,some .string,.v (.string s)=>some (.v (.string s))
  |some (.slice e),some .string,.sl sz _ cs _=>
    match P.underlying e with
    |some (.int .u8)=>if sz=1∧cs.all isByte=true then some (.v (.string (kW cs))) else none
    |_=>none
  |some (.slice e),some .string,.v (.slice none _ _)=>
    match P.underlying e with
    |some (.int .u8)=>some (.v (.string .empty))
    |_=>none
  |some .string,some (.slice e),.v (.string s)=>
    match P.underlying e with
    |some (.int .u8)=>some (.sl 1 s.size (s.data.toList.map ae) .no)
    |_=>none
  |some (.slice _),some (.slice e),.sl sz n cs .new=>
    match P.underlying e with
    |some (.int .u8)=>if src=dst then some (.sl sz n cs .new) else none
    |_=>none
  |_,_,_=>none
def aindexAddr(P:Program)(T:TypeId)(x i:AV):Option AV:=
  match P.underlying T,x,i with
  |some (.slice e),.sl sz n cs _,.v (.int _ j)=>
    if 0≤j∧j<n∧P.cellsOf e=sz∧sz≠0 then some (.cN ((cs.drop (j.toNat*sz)).take sz)) else none
  |some (.slice e),.ig o off sz n _,.v (.int _ j)=>
    if 0≤j∧j<n∧P.cellsOf e=sz∧sz≠0 then some (.ptr o (off+j.toNat*sz)) else none
  |some (.array n e),.ptr o off,.v (.int _ j)=>
    if 0≤j∧j<n∧P.cellsOf e≠0 then some (.ptr o (off+j.toNat*P.cellsOf e)) else none
  |some (.array n e),.cN cs,.v (.int _ j)=>
    if 0≤j∧j<n∧P.cellsOf e≠0 then some (.cN (cs.drop (j.toNat*P.cellsOf e))) else none
  |_,_,_=>none
def aindex(P:Program)(T:TypeId)(x i:AV):Option AV:=
  match P.underlying T,x,i with
  |some (.array n e),.agg cs,.v (.int _ j)=>
    if 0≤j∧j<n∧P.cellsOf e≠0 then apart P e cs (j.toNat*P.cellsOf e) else none
  |some .string,.v (.string s),.v (.int _ j)=>
    if 0≤j then(match s[j.toNat]? with |some b=>some (ae b)|none=>none) else none
  |_,_,_=>none
def dR(d:Int):Option AV→Option Int
  |none=>some d
  |some (.v (.int _ j))=>some j
  |_=>none
def aslice(P:Program)(T:TypeId)(x:AV)(lo hi mx:Option AV):Option AV:=
  match P.underlying T,x with
  |some (.slice e),.sl sz n cs sp=>
    match dR 0 lo,dR n hi,dR n mx with
    |some l,some h,some m=>
      if 0≤l∧l≤h∧h≤n∧(mx.isSome=true→h=m)∧(mx.isSome=true→hi.isSome=true)∧P.cellsOf e=sz∧sz≠0 then
        some (.sl sz (h.toNat-l.toNat) ((cs.take (h.toNat*sz)).drop (l.toNat*sz))
          (match sp with
            |.any=>.any
            |.no=>if mx.isSome=true then .full else .no
            |.full=>if mx.isSome=true then .full else if h=n then .full else .no
            |.new=>if mx.isSome=true then .full else if h=n then .new else .no
            |.own t g=>if mx.isSome=true then .full else if h=n then(if l=0 then .own t g else .no) else .no))
      else none
    |_,_,_=>none
  |some (.slice e),.v (.slice none 0 0)=>
    match dR 0 lo,dR 0 hi,dR 0 mx with
    |some l,some h,some m=>if l=0∧h=0∧m=0∧P.cellsOf e≠0∧(mx.isSome=true→hi.isSome=true) then some (.v (.slice none 0 0)) else none
    |_,_,_=>none
  |some (.slice e),.ig o off sz n cap=>
    match dR 0 lo,dR n hi,mx with
    |some l,some h,none=>
      if 0≤l∧l≤h∧h≤cap∧P.cellsOf e=sz∧sz≠0 then
        some (.ig o (if(cap:Int)=l then off else off+l.toNat*sz) sz (h.toNat-l.toNat) (cap-l.toNat))
      else none
    |_,_,_=>none
  |some (.array n e),.ptr o off=>
    match dR 0 lo,dR n hi,mx with
    |some l,some h,none=>
      if 0≤l∧l≤h∧h≤n∧P.cellsOf e≠0 then
        some (.ig o (if(n:Int)=l then off else off+l.toNat*P.cellsOf e) (P.cellsOf e) (h.toNat-l.toNat) (n-l.toNat))
      else none
    |_,_,_=>none
  |some .string,.v (.string s)=>
    match dR 0 lo,dR s.size hi,mx with
    |some l,some h,none=>if 0≤l∧l≤h∧h≤s.size then some (.v (.string (s.extract l.toNat h.toNat))) else none
    |_,_,_=>none
  |_,_=>none
def abuiltin(P:Program)(b:Builtin)(argTypes:Array TypeId)(args:List AV):Option AV:=
  match b,args with
  |.len,[x]=>
    match(argTypes[0]?).bind P.underlying,x with
    |some (.slice _),.sl _ n _ _=>some (.v (.int .i64 n))
    |some (.slice _),.ig _ _ _ n _=>some (.v (.int .i64 n))
    |some (.slice _),.v (.slice none n _)=>some (.v (.int .i64 n))
    |some .string,.v (.string s)=>some (.v (.int .i64 s.size))
    |some (.array n _),_=>some (.v (.int .i64 n))
    |_,_=>none
  |.cap,[x]=>
    match(argTypes[0]?).bind P.underlying,x with
    |some (.slice _),.ig _ _ _ _ c=>some (.v (.int .i64 c))
    |some (.slice _),.v (.slice none _ c)=>some (.v (.int .i64 c))
    |some (.slice _),.sl _ n _ .full=>some (.v (.int .i64 n))
    |some (.slice _),.sl _ n _ .new=>some (.v (.int .i64 n))
    |_,_=>none
  |.min,[.v (.int k x),.v (.int k' y)]=>if k=k' then some (.v (.int k (if y<x then y else x))) else none
  |.max,[.v (.int k x),.v (.int k' y)]=>if k=k' then some (.v (.int k (if y>x then y else x))) else none
  |_,_=>none
def cL(P:Program)(ρ:Operand→AV):Op→Option AV
  |.move x=>some (ρ x)
  |.assign x=>some (ρ x)
  |.pick c a b=>match ρ c with |.v (.bool t)=>some (if t=true then ρ a else ρ b)|_=>none
  |.binOp op T x y _=>ik P op T (ρ x) (ρ y)
  |.unOp op _ x=>F7 op (ρ x)
  |.convert src dst x=>aconv P src dst (ρ x)
  |.nilCheck x=>
    match ρ x with
    |.ptr o off=>some (.ptr o off)
    |.cN cs=>some (.cN cs)
    |.qE f cs=>some (.qE f cs)
    |.v (.func (.func f) a b)=>some (.v (.func (.func f) a b))
    |_=>none
  |.fieldAddr S x i=>
    match b6 P S i with
    |some (off,T)=>
      if P.cellsOf T=0 then none else
      match ρ x with
      |.ptr o a=>some (.ptr o (a+off))
      |.cN cs=>some (.cN (cs.drop off))
      |_=>none
    |none=>none
  |.field S x i=>
    match b6 P S i,ρ x with
    |some (off,T),.agg cs=>if P.cellsOf T=0 then none else apart P T cs off
    |_,_=>none
  |.indexAddr T x i=>aindexAddr P T (ρ x) (ρ i)
  |.index T x i=>aindex P T (ρ x) (ρ i)
  |.load T x=>match ρ x with |.cN cs=>if P.cellsOf T=0 then none else oC P T cs|_=>none
  |.slice T x lo hi mx=>aslice P T (ρ x) (lo.map ρ) (hi.map ρ) (mx.map ρ)
  |.extract t i=>match ρ t with |.eu cs=>cs[i]? |_=>none
  |.build T parts=>
    match P.underlying T,bo P T with
    |some (.struct _),some z=>
      if fm P T=true then(iY (placeOf P T) z (parts.toList.map fun p=>(p.1,ρ p.2))).map .agg else none
    |some (.array _ e),some z=>
      if P.cellsOf e=0 then none else(iY (fun i=>some (i*P.cellsOf e,P.cellsOf e)) z (parts.toList.map fun p=>(p.1,ρ p.2))).map .agg
    |_,_=>none
  |.buildSlice T len parts=>
    match P.underlying T with
    |some (.slice e)=>
      match bo P e with
      |some z=>
        if P.cellsOf e=0∨len*P.cellsOf e>2^24∨z.length≠P.cellsOf e then none else
        (iY (fun i=>some (i*P.cellsOf e,P.cellsOf e)) (nG (len*P.cellsOf e) z) (parts.toList.map fun p=>(p.1,ρ p.2))).map
          fun cs=>.sl (P.cellsOf e) len cs .new
      |none=>none
    |_=>none
  |.makeFunc (.func f) first captured=>if first.isEmpty=true then some (.qE f (captured.toList.map ρ)) else none
  |.call {callee:=.builtin b,args,argTypes}=>abuiltin P b argTypes (args.toList.map ρ)
  |_=>none
end Go.AM
namespace Go.AM
open Go Go.RowKit
variable{P:Program}{Γ:Nat→List AV}{G:Gh}{s:AS}{w:World}
theorem eZ{t:TypeId}(h:P.cellsOf t≠0):∃i,P.info? t=some i:=by
  cases hi:P.info? t with
  |some i=>exact⟨i,rfl⟩
  |none=>simp[Program.cellsOf,hi] at h
theorem aS{t:TypeId}(h:P.cellsOf t≠0)(w:World):(sizeOf t).run P w=.ok (P.cellsOf t) w:=by
  obtain⟨i,hi⟩:=eZ h;simp[sizeOf,typeInfo,hi,Program.cellsOf]
theorem wv{t:TypeId}(h:(P.info? t).isSome=true)(w:World):(sizeOf t).run P w=.ok (P.cellsOf t) w:=by
  obtain⟨i,hi⟩:=Option.isSome_iff_exists.1 h;simp[sizeOf,typeInfo,hi,Program.cellsOf]
theorem nH{t:TypeId}{b:Bool}(h:bM P t=some b)(w:World):(isAgg t).run P w=.ok b w:=by
  unfold bM at h;cases hu:P.underlying t with
  |none=>simp[hu] at h
  |some d=>cases d<;>simp[hu] at h<;>simp[isAgg,run_underlying hu,←h]
theorem cI(b o j:Nat):(⟨b,o,none⟩:Addr).add j=⟨b,o+j,none⟩:=by unfold Addr.add;split <;>simp_all
theorem aQ.xbH(h:aQ Γ G s w){b off:Nat}{vs:List Value}(k:gz G b off vs):∀(j:Nat)(u:Value),vs[j]? =some u→w.cell? ((⟨b,off,none⟩:Addr).add j)=some u:=by
  intro j u hj;rw[cI];exact h.ro _ _ _ (k j u hj)
theorem nI{t:TypeId}{b off:Nat}{cs:List AV}{vs:List Value}{r:AV}(hl:oC P t cs=some r)(hz:P.cellsOf t≠0)(hv:ar G cs vs)
    (hc:∀(j:Nat)(u:Value),vs[j]? =some u→w.cell? ((⟨b,off,none⟩:Addr).add j)=some u):
    ∃v,(loadVar t ⟨b,off,none⟩).run P w=.ok v w∧av G r v:=by
  unfold oC at hl;cases hA:bM P t with
  |none=>simp[hA] at hl
  |some b0=>
    cases b0 with
    |true=>
      simp only[hA] at hl;split at hl
      · rename_i hle;simp at hl;subst hl;have hlen:=hv.length;refine⟨.agg (vs.take (P.cellsOf t)).toArray,?_,by simp only[av];exact⟨_,rfl,hv.take _⟩⟩;simp only[loadVar,Sem.run_bind,nH hA,Result.andThen_ok,if_true,aS hz];have:=run_loadCells_list (P:=P) w ⟨b,off,none⟩ (vs.take (P.cellsOf t)) (fun j u hj=>hc j u (by
          rw[List.getElem?_take] at hj;split at hj
          · exact hj
          · cases hj))
        have DS:(vs.take (P.cellsOf t)).length=P.cellsOf t:=(by simp;omega);rw[DS] at this;simp[this]
      · cases hl
    |false=>
      simp only[hA] at hl;obtain⟨u,h1,h2⟩:=hv.get 0 r hl;refine⟨u,?_,h2⟩;have:=hc 0 u h1;simp only[Addr.add_zero'] at this;simp[loadVar,nH hA,this]
theorem lG{r:AV}{v:Value}(h:av G r v):ar G r.cells v.cells.toList:=by
  cases r with
  |agg cs=>
    simp only[av] at h;obtain⟨vs,rfl,h2⟩:=h;simpa[AV.cells,Value.cells] using h2
  |v x=>
    simp only[av] at h;subst h;cases v<;>first
      |(simp only[AV.cells,Value.cells,ar];exact⟨_,[],rfl,by simp[av],rfl⟩)
      |(simp only[AV.cells,Value.cells];exact ar.DK _)
  |sl sz n cs sp=>
    have h':=h;simp only[av] at h';rcases h' with⟨b,off,cap,vs,rfl,_⟩|⟨rfl,rfl,a,cap,rfl,_⟩|⟨rfl,rfl,rfl,rfl⟩<;>
      (simp only[AV.cells,Value.cells,ar];exact⟨_,[],rfl,h,rfl⟩)
  |cN cs=>
    have h':=h;simp only[av] at h';obtain⟨b,off,vs,rfl,_⟩:=h';simp only[AV.cells,Value.cells,ar];exact⟨_,[],rfl,h,rfl⟩
  |ptr o off=>
    have h':=h;simp only[av] at h';obtain⟨b,_,rfl⟩:=h';simp only[AV.cells,Value.cells,ar];exact⟨_,[],rfl,h,rfl⟩
  |ig o off sz n cap=>
    have h':=h;simp only[av] at h';obtain⟨b,_,rfl,_⟩:=h';simp only[AV.cells,Value.cells,ar];exact⟨_,[],rfl,h,rfl⟩
  |eu cs=>
    have h':=h;simp only[av] at h';obtain⟨vs,rfl,_⟩:=h';simp only[AV.cells,Value.cells,ar];exact⟨_,[],rfl,h,rfl⟩
  |qE f cs=>
    have h':=h;simp only[av] at h';obtain⟨vs,rfl,_⟩:=h';simp only[AV.cells,Value.cells,ar];exact⟨_,[],rfl,h,rfl⟩
theorem AL{t:TypeId}{cs:List AV}{vs:List Value}{off:Nat}{r:AV}(h:apart P t cs off=some r)(hz:P.cellsOf t≠0)(hv:ar G cs vs):
    ∃v,(part t vs.toArray off).run P w=.ok v w∧av G r v:=by
  unfold apart at h;cases hA:bM P t with
  |none=>simp[hA] at h
  |some b0=>
    cases b0 with
    |true=>
      simp only[hA] at h;simp at h;subst h;refine⟨.agg ((vs.drop off).take (P.cellsOf t)).toArray,?_,by simp only[av];exact⟨_,rfl,(hv.drop _).take _⟩⟩;simp only[part,Sem.run_bind,nH hA,Result.andThen_ok,if_true,aS hz];simp[List.extract_eq_take_drop]
    |false=>
      simp only[hA] at h;obtain⟨u,h1,h2⟩:=hv.get off r h;refine⟨u,?_,h2⟩;simp[part,nH hA,h1]
def DU(Γ:Nat→List AV)(G:Gh)(s:AS)(r:AV)(R:Result Next):Prop:=
  ∃G' v w',R=.ok (.value v) w'∧G.le G'∧aQ Γ G' s w'∧av G' r v
theorem DU.same{r:AV}{v:Value}{R:Result Next}(hs:aQ Γ G s w)(h1:R=.ok (.value v) w)(h2:av G r v):DU Γ G s r R:=
  ⟨G,v,w,h1,.refl G,hs,h2⟩
section binops
theorem I6(op:BinOp)(k:IntKind)(a b:Int)(r:AV)(h:fo op k a b=some r)(T:TypeId)(cY:op≠.shl∧op≠.shr):
    ∃v,(binOp op T (.int k a) (.int k b)).run P w=.ok v w∧av G r v:=by
  cases op<;>simp[fo] at h cY<;>first
    |(subst h;exact⟨_,by simp[binOp,Op.intArith,Op.intBits,Op.intCmp];rfl,by simp[av,dQ,dr,ia,mr,F6,DP,HO]⟩)
    |(obtain⟨h1,h2⟩:=h;subst h2;exact⟨_,by simp[binOp,Op.intDiv,h1];rfl,by simp[av,kX,iW]⟩)
theorem vB(op:BinOp)(k k':IntKind)(a b:Int)(r:AV)(h:ashift op k a b=some r)(T:TypeId):
    ∃v,(binOp op T (.int k a) (.int k' b)).run P w=.ok v w∧av G r v:=by
  unfold ashift at h;split at h
  · cases h
  · rename_i hb;cases op<;>simp at h<;>
      (subst h;exact⟨_,by simp only[binOp,Op.shift];rw[if_neg hb];rfl,by simp[av,kC,eU]⟩)
end binops
theorem DV(op:BinOp)(t:TypeId)(x y:Operand)(k k':IntKind)(a b:Int)(w:World):(eqGuard op t x y (.int k a) (.int k' b)).run P w=.ok () w:=by
  cases op<;>simp[eqGuard]
theorem B0(op:BinOp)(t:TypeId)(x y:Operand)(a b:Bool)(w:World):(eqGuard op t x y (.bool a) (.bool b)).run P w=.ok () w:=by
  cases op<;>simp[eqGuard]
theorem xu(op:BinOp)(t:TypeId)(x y:Operand)(a b:ByteArray)(w:World):(eqGuard op t x y (.string a) (.string b)).run P w=.ok () w:=by
  cases op<;>simp[eqGuard]
theorem jY(op:BinOp)(t:TypeId)(x y:Operand)(a b:Option Addr)(n c n' c':Nat)(w:World):(eqGuard op t x y (.slice a n c) (.slice b n' c')).run P w=.ok () w:=by
  cases op<;>simp[eqGuard]
theorem kD(op:BinOp)(t:TypeId)(x y:Operand)(a b:Option Addr)(w:World):(eqGuard op t x y (.pointer a) (.pointer b)).run P w=.ok () w:=by
  cases op<;>simp[eqGuard]
theorem I7(op:BinOp)(x y:ByteArray)(r:AV)(h:xt op x y=some r)(T:TypeId):
    ∃v,(binOp op T (.string x) (.string y)).run P w=.ok v w∧av G r v:=by
  cases op<;>simp[xt] at h;case add=>
    obtain⟨h1,h2⟩:=h;subst h2;refine⟨_,?_,by simp[av];rfl⟩;have :¬(((x.size+y.size:Nat):Int)>IntKind.i64.max):=by
      have e:IntKind.i64.max=9223372036854775807:=rfl;rw[e];push_cast;omega
    simp only[binOp,Op.stringOp];rw[if_neg this];rfl
  all_goals(subst h;exact⟨_,by simp[binOp,Op.stringOp];rfl,by simp[av]⟩)
theorem il{T:TypeId}{x y:Value}{r:Result Bool}(h:∀d,(Op.equalIn (d+1) T x y).run P w=r):(Op.equal T x y).run P w=r:=h 9999
theorem oD{T:TypeId}(hT:dH P T=true)(a b:Option Addr)(n c n' c':Nat)(zF:a=none∨b=none):
    (Op.equal T (.slice a n c) (.slice b n' c')).run P w=.ok (a.isNone&&b.isNone) w:=by
  unfold dH at hT;cases hu:P.underlying T with
  |none=>simp[hu] at hT
  |some d=>
    cases d<;>simp[hu] at hT;refine il fun d=>?_;rcases zF with rfl|rfl
    · cases b<;>simp[Op.equalIn,run_underlying hu]
    · cases a<;>simp[Op.equalIn,run_underlying hu]
theorem qM{T:TypeId}(hT:lF P T=true)(a:Option Addr):
    (Op.equal T (.pointer a) (.pointer none)).run P w=.ok a.isNone w:=by
  unfold lF at hT;cases hu:P.underlying T with
  |none=>simp[hu] at hT
  |some d=>
    cases d<;>simp[hu] at hT;refine il fun d=>?_;cases a<;>simp[Op.equalIn,run_underlying hu]
theorem kY{op:BinOp}{T:TypeId}{a b:Option Addr}{n c n' c':Nat}{r:AV}{t:Bool}(hT:dH P T=true)(h:nf op t=some r)
    (zF:a=none∨b=none) (ht:(a.isNone&&b.isNone)=t):
    ∃v,(binOp op T (.slice a n c) (.slice b n' c')).run P w=.ok v w∧av G r v:=by
  cases op<;>simp[nf] at h<;>subst h
  · exact⟨.bool t,by simp[binOp,oD hT a b n c n' c' zF,ht],by simp[av]⟩
  · exact⟨.bool !t,by simp[binOp,oD hT a b n c n' c' zF,←ht],by simp[av]⟩
theorem xv{op:BinOp}{T:TypeId}{a:Option Addr}{r:AV}{t:Bool}(hT:lF P T=true)(h:nf op t=some r)(zF:a.isNone=t):
    ∃v,(binOp op T (.pointer a) (.pointer none)).run P w=.ok v w∧av G r v:=by
  cases op<;>simp[nf] at h<;>subst h
  · exact⟨.bool t,by simp[binOp,qM hT a,zF],by simp[av]⟩
  · exact⟨.bool !t,by simp[binOp,qM hT a,zF],by simp[av]⟩
theorem pn{T:TypeId}(hT:lF P T=true)(a:Option Addr):
    (Op.equal T (.pointer none) (.pointer a)).run P w=.ok a.isNone w:=by
  unfold lF at hT;cases hu:P.underlying T with
  |none=>simp[hu] at hT
  |some d=>
    cases d<;>simp[hu] at hT;refine il fun d=>?_;cases a<;>simp[Op.equalIn,run_underlying hu]
theorem DW{op:BinOp}{T:TypeId}{a:Option Addr}{r:AV}{t:Bool}(hT:lF P T=true)(h:nf op t=some r)(zF:a.isNone=t):
    ∃v,(binOp op T (.pointer none) (.pointer a)).run P w=.ok v w∧av G r v:=by
  cases op<;>simp[nf] at h<;>subst h
  · exact⟨.bool t,by simp[binOp,pn hT a,zF],by simp[av]⟩
  · exact⟨.bool !t,by simp[binOp,pn hT a,zF],by simp[av]⟩
theorem sL{d:Nat}{XU XV:Array Value}:∀(fs:List Field)(i:Nat)(as bs:List AV)(us vs:List Value)(b:Bool),I5 P i fs as bs=some b→ar G as us→ar G bs vs→(∀j u,us[j]? =some u→XU[i+j]? =some u)→(∀j u,vs[j]? =some u→XV[i+j]? =some u)→
    (Op.eqFields (d+1) XU XV fs).run P w=.ok b w
  |[],i,as,bs,us,vs,b,h,_,_,_,_=>by
    simp only[I5,Option.some.injEq] at h;subst h;simp[Op.eqFields]
  |f::fs,i,as,bs,us,vs,b,h,hu,hv,h1,h2=>by
    unfold I5 at h;split at h
    · rename_i e;cases e
    · rename_i i _ _ _ _ f' fs' k a as' k' c bs' e;cases e;simp only[ar,av] at hu hv;obtain⟨_,wu,rfl,rfl,hu⟩:=hu;obtain⟨_,NU,rfl,rfl,hv⟩:=hv;split at h
      · rename_i k0 hT;split at h
        · rename_i hc;obtain⟨rfl,hn,ho⟩:=hc;cases hr:I5 P (i+1) fs as' bs' with
          |none=>rw[hr] at h;cases h
          |some r=>
            rw[hr] at h;simp only[Option.map_some,Option.some.injEq] at h;subst h;have ih:=sL (d:=d) (XU:=XU) (XV:=XV) fs (i+1) as' bs' wu NU r hr hu hv (fun j u q=>by rw[Nat.add_assoc,Nat.add_comm 1];exact h1 (j+1) u (by simpa using q)) (fun j u q=>by rw[Nat.add_assoc,Nat.add_comm 1];exact h2 (j+1) u (by simpa using q));have g1:=h1 0 _ rfl;have g2:=h2 0 _ rfl;simp only[Nat.add_zero] at g1 g2;simp only[Op.eqFields,hn,ne_eq,not_false_eq_true,if_true,Sem.run_bind,ho];have p1:(part f.type XU i).run P w=.ok (.int k a) w:=(by simp[part,isAgg,run_underlying hT,g1]);have p2:(part f.type XV i).run P w=.ok (.int k c) w:=(by simp[part,isAgg,run_underlying hT,g2]);rw[p1,Result.andThen_ok,p2,Result.andThen_ok,run_equalIn_int w d f.type k k0 a c hT,Result.andThen_ok];cases hac:(a==c)
            · simp
            · simpa using ih
        · cases h
      · cases h
    · cases h
theorem Kw{op:BinOp}{T:TypeId}{xs ys:List AV}{us vs:List Value}{r:AV}(ox oy:Operand)(h:DR P T op xs ys=some r)(hx:ar G xs us)(hy:ar G ys vs):
    (eqGuard op T ox oy (.agg us.toArray) (.agg vs.toArray)).run P w=.ok () w∧∃z,(binOp op T (.agg us.toArray) (.agg vs.toArray)).run P w=.ok z w∧av G r z:=by
  unfold DR at h;split at h
  · rename_i hc;refine⟨run_eqGuard_agg w op T ox oy _ _ hc.2,?_⟩;split at h
    · rename_i fs hT;split at h
      · rename_i b hb;have hf:P.fieldsOf T=fs:=(by simp[Program.fieldsOf,hT]);have hq:(Op.equalIn 10000 T (.agg us.toArray) (.agg vs.toArray)).run P w=.ok b w:=by
          rw[run_equalIn_struct w 9999 T _ _ (by rw[hf];exact hT) hc.1,hf];exact sL (d:=9998) fs.toList 0 xs ys us vs b hb hx hy (fun j u q=>by simpa using q) (fun j u q=>by simpa using q)
        cases op<;>simp[nf] at h<;>subst h
        · exact⟨.bool b,by rw[run_eql_struct,hq];rfl,by simp[av]⟩
        · exact⟨.bool !b,by rw[run_neq_struct,hq];rfl,by simp[av]⟩
      · cases h
    · cases h
  · cases h
theorem Kx{op:BinOp}{T:TypeId}{x y:AV}{u v:Value}{r:AV}(ox oy:Operand)(h:ik P op T x y=some r)(hx:av G x u)(hy:av G y v):
    (eqGuard op T ox oy u v).run P w=.ok () w∧∃z,(binOp op T u v).run P w=.ok z w∧av G r z:=by
  unfold ik at h;split at h
  · rename_i k a k' b;simp only[av] at hx hy;subst hx hy;refine⟨DV ..,?_⟩;split at h
    · exact vB _ _ _ _ _ _ h T
    · exact vB _ _ _ _ _ _ h T
    · rename_i op h1 h2;split at h
      · rename_i hk;subst hk;exact I6 _ _ _ _ _ h T ⟨h1,h2⟩
      · cases h
  · rename_i a b;simp only[av] at hx hy;subst hx hy;refine⟨B0 ..,?_⟩;unfold vA at h;split at h
    · rename_i hu;simp at h;subst h;exact⟨_,by simp only[binOp,Sem.run_bind,il (P:=P) (w:=w) (T:=T) (x:=.bool a) (y:=.bool b) (r:=.ok (a==b) w) (fun d=>by simp[Op.equalIn,run_underlying hu])];rfl,by simp[av]⟩
    · rename_i hu;simp at h;subst h;exact⟨_,by simp only[binOp,Sem.run_bind,il (P:=P) (w:=w) (T:=T) (x:=.bool a) (y:=.bool b) (r:=.ok (a==b) w) (fun d=>by simp[Op.equalIn,run_underlying hu])];rfl,by simp[av]⟩
    · cases h
  · simp only[av] at hx hy;subst hx hy;exact⟨xu ..,I7 _ _ _ _ h T⟩
  · simp only[av] at hx hy;subst hx hy;split at h
    · rename_i hT;exact⟨jY ..,kY hT h (.inl rfl) rfl⟩
    · cases h
  · simp only[av] at hx hy;subst hy;rcases hx with⟨b,off,cap,vs,rfl,_⟩|⟨rfl,rfl,a,cap,rfl,_⟩|⟨rfl,rfl,rfl,rfl⟩
    · split at h
      · rename_i hT;exact⟨jY ..,kY hT.1 h (.inr rfl) rfl⟩
      · cases h
    · split at h
      · rename_i hT;exact⟨jY ..,kY hT.1 h (.inr rfl) rfl⟩
      · cases h
    · rw[if_neg (by simp[Sp.isAny])] at h;cases h
  · simp only[av] at hx hy;obtain⟨b,_,rfl,_⟩:=hx;subst hy;split at h
    · rename_i hT;exact⟨jY ..,kY hT h (.inr rfl) rfl⟩
    · cases h
  · simp only[av] at hx hy;subst hx hy;split at h
    · rename_i hT;exact⟨kD ..,xv hT h rfl⟩
    · cases h
  · simp only[av] at hx hy;obtain⟨b,_,rfl⟩:=hx;subst hy;split at h
    · rename_i hT;exact⟨kD ..,xv hT h rfl⟩
    · cases h
  · simp only[av] at hx hy;obtain⟨b,_,rfl⟩:=hy;subst hx;split at h
    · rename_i hT;exact⟨kD ..,DW hT h rfl⟩
    · cases h
  · simp only[av] at hx hy;obtain⟨us,rfl,hx⟩:=hx;obtain⟨vs,rfl,hy⟩:=hy;exact Kw ox oy h hx hy
  · cases h
theorem Ol{op:UnOp}{x:AV}{u:Value}{r:AV}(h:F7 op x=some r)(hx:av G x u):∃z,(Op.unary op u).run P w=.ok z w∧av G r z:=by
  unfold F7 at h;split at h
  · simp only[av] at hx;subst hx;cases op<;>simp at h<;>subst h
    · exact⟨_,by simp[Op.unary,Op.intArith];rfl,by simp[av,DQ]⟩
    · exact⟨_,by simp only[Op.unary,Op.intBits];rfl,by simp[av,Kv]⟩
  · simp only[av] at hx;subst hx;cases op<;>simp at h;subst h;exact⟨_,by simp[Op.unary];rfl,by simp[av]⟩
  · cases h
theorem po:∀{cs:List AV}{vs:List Value},ar G cs vs→cs.all isByte=true→
    ∃xs:List Int,vs=xs.map (Value.int .u8)∧cs.map byteOf=xs.map (fun n=>UInt8.ofNat n.toNat)
  |[],vs,h,_=>by simp only[ar] at h;subst h;exact⟨[],rfl,rfl⟩
  |c::cs,vs,h,ha=>by
    simp only[ar] at h;obtain⟨u,us,rfl,h2,h3⟩:=h;simp only[List.all_cons,Bool.and_eq_true] at ha;obtain⟨xs,rfl,h5⟩:=po h3 ha.2;have h1:=ha.1;unfold isByte at h1;split at h1
    · rename_i n;simp only[av] at h2;subst h2;exact⟨n::xs,rfl,by simp[byteOf,h5]⟩
    · cases h1
theorem aQ.B1{w':World}(h:aQ Γ G s w)(hc:∀b j,w'.cell? ⟨b,j,none⟩=w.cell? ⟨b,j,none⟩)
    (hf:∀b j,Kn G s b→w.cell? ⟨b,j,none⟩≠none→w'.frozen? ⟨b,j,none⟩=w.frozen? ⟨b,j,none⟩)
    (fa:w.heap.size=w'.heap.size) (hb:Below G.B w w') (Kh:dn G.w0 w') (Vh:IZ (Kn G s) w'):aQ Γ G s w' where
  ro b j u hu:=by rw[hc];exact h.ro b j u hu
  aw o cs ho:=by
    obtain⟨b,vs,h1,h2,h3,h4⟩:=h.aw o cs ho;refine⟨b,vs,h1,h2,h3,fun j u hu=>?_⟩;obtain⟨k1,k2,k3⟩:=h4 j u hu;exact⟨by rw[hc];exact k1,by rw[hf b j (.inl ⟨o,h1⟩) (by rw[k1];simp)];exact k2,k3⟩
  cX o b hb:=by rw[←fa];exact h.cX o b hb
  inj:=h.inj;own t e he:=by
    obtain⟨b,st,en,h1,h2,h3,h4,h5,h6⟩:=h.own t e he;refine⟨b,st,en,h1,h2,h3,fun j hj kg=>?_,h5,by omega⟩;obtain⟨⟨u,k1⟩,k2,k3⟩:=h4 j hj kg;exact⟨⟨u,by rw[hc];exact k1⟩,by rw[hf b j (.inr ⟨t,e,_,he,h1⟩) (by rw[k1];simp)];exact k2,k3⟩
  cJ:=h.cJ;bR:=h.bR;cF:=h.cF;cb:=h.cb;below:=h.below.trans hb;others:=Kh;base:=by have:=h.base;omega
  gZ:=h.gZ;soft:=Vh
theorem vC(w:World)(a:Addr)(n b j:Nat):(w.freeze a n).cell? ⟨b,j,none⟩=w.cell? ⟨b,j,none⟩:=by
  unfold World.freeze;split
  · rfl
  · simp only[World.cell?,Array.getElem?_modify];by_cases hb:a.block=b
    · simp only[hb,if_true];cases hh:w.heap[b]? with
      |none=>simp
      |some x=>cases x<;>simp
    · simp[hb]
theorem kQ(w:World)(a:Addr)(n b j:Nat)(h:a.block≠b):(w.freeze a n).frozen? ⟨b,j,none⟩=w.frozen? ⟨b,j,none⟩:=by
  unfold World.freeze;split
  · rfl
  · simp only[World.frozen?,Array.getElem?_modify];rw[if_neg h]
theorem sM(w:World)(c:Array Value)(T:TypeId)(j:Nat)(hj:j<c.size):
    ((w.alloc (.cells c T)).freeze ⟨w.heap.size,c.size,none⟩ 1).frozen? ⟨w.heap.size,j,none⟩=false:=by
  unfold World.freeze;rw[if_neg (by omega)];simp only[World.frozen?,Array.getElem?_modify,if_true];have :(w.alloc (.cells c T)).heap[w.heap.size]? =some (.cells c T):=by
    show(w.heap.push _)[w.heap.size]? =_;rw[Array.getElem?_push_size]
  rw[this];simp;omega
theorem vD(w:World)(a:Addr)(n:Nat):(w.freeze a n).heap.size=w.heap.size:=by
  unfold World.freeze;split <;>simp
theorem sN{B:Nat}(w:World)(a:Addr)(n:Nat)(h:B≤a.block):Below B w (w.freeze a n):=by
  unfold World.freeze;split
  · exact Below.refl _ _
  · refine⟨rfl,rfl,rfl,by simp,fun k hk=>?_⟩;rw[Array.getElem?_modify,if_neg (by omega)]
theorem vE{K:Nat→Prop}{w:World}(h:IZ K w){b n:Nat}(hn:∀c T fr,w.heap[b]? =some (.cells c T fr)→c.size≤n):
    ∀b' c T lo hi,K b'→(w.freeze ⟨b,n,none⟩ 1).heap[b']? =some (.cells c T (lo,hi))→lo=hi∨c.size≤lo:=by
  intro b' c T lo hi hB hc;unfold World.freeze at hc;rw[if_neg (by omega)] at hc;simp only[Array.getElem?_modify] at hc;split at hc
  · rename_i BZ;cases hh:w.heap[b']? with
    |none=>simp[hh] at hc
    |some o=>
      simp only[hh,Option.map_some,Option.some.injEq] at hc;cases o with
      |cells c' T' fr=>
        obtain⟨Sn,aY⟩:=fr;simp only[Obj.cells.injEq] at hc;obtain⟨rfl,rfl,h3⟩:=hc;have h1:=h b' c' T' Sn aY hB hh;have h2:=hn c' T' _ (BZ ▸ hh);split at h3
        · simp only[Prod.mk.injEq] at h3;obtain⟨rfl,rfl⟩:=h3;exact .inr h2
        · rename_i cY;simp only[beq_iff_eq] at cY;simp only[Prod.mk.injEq] at h3;obtain⟨rfl,rfl⟩:=h3;have :c'.size≤Sn:=h1.resolve_left cY;exact .inr (by omega)
      |_=>cases hc
  · exact h b' c T lo hi hB hc
theorem aQ.Om(h:aQ Γ G s w){b off:Nat}(hB:G.B≤b):∃w',(markStringish ⟨b,off,none⟩).run P w=.ok () w'∧aQ Γ G s w':=by
  cases hh:w.heap[b]? with
  |none=>exact⟨w,by simp[markStringish,run_shape,World.shape?,hh],h⟩
  |some o=>
    cases o with
    |cells c T fr=>
      obtain⟨lo,hi⟩:=fr;refine⟨w.freeze ⟨b,c.size,none⟩ 1,by simp[markStringish,run_shape,World.shape?,hh],?_⟩;have hs:=fun hk=>h.soft b c T lo hi hk hh;refine h.B1 (fun b j=>vC ..) (fun b' j hk hc=>?_) (vD ..).symm (sN _ _ _ hB) (h.others.trans (dn.freeze _ _ _)) (vE h.soft (fun c' T' fr' h'=>by rw[hh] at h';cases h';exact Nat.le_refl _));by_cases e:b=b'
      · subst e;have hs:=hs hk;have hj:j<c.size:=by
          rcases Nat.lt_or_ge j c.size with h'|h'
          · exact h'
          · exact absurd (by simp[World.cell?,hh,Array.getElem?_eq_none h']) hc
        unfold World.freeze;rw[if_neg (by omega)];simp only[World.frozen?,Array.getElem?_modify,if_true,hh,Option.map_some];by_cases hl:lo=hi
        · subst hl;simp only[beq_self_eq_true,if_true];rw[Bool.eq_iff_iff];simp only[Bool.and_eq_true,decide_eq_true_eq];omega
        · have :c.size≤lo:=hs.resolve_left hl;rw[if_neg (by simpa using hl)];rw[Bool.eq_iff_iff];simp only[Bool.and_eq_true,decide_eq_true_eq];omega
      · exact kQ _ _ _ _ _ e
    |_=>exact⟨w,by simp[markStringish,run_shape,World.shape?,hh],h⟩
theorem aQ.pq(h:aQ Γ G s w)(vs us:List Value)(T:TypeId)(t e:Nat)(ht:∀e',e≤e'→G.tok t e'=none):
    ∃G',G.le G'∧aQ Γ G' (s.bA t e) (w.alloc (.cells (vs++us).toArray T))∧gz G' w.heap.size 0 vs∧G'.tok t e=some (w.heap.size,vs.length,(vs++us).length)∧(∀o,G'.obj o=G.obj o)∧G.B=G'.B:=by
  obtain⟨hle,hS⟩:=h.QS vs (vs++us).toArray T (fun j u hu=>by
    have :j<vs.length:=by
      rcases Nat.lt_or_ge j vs.length with h|h
      · exact h
      · simp[List.getElem?_eq_none h] at hu
    simp[List.getElem?_append_left this,hu])
  have hg:=hS.bA (t:=t) (e:=e) (b:=w.heap.size) (st:=vs.length) (en:=(vs++us).length) (ht e (Nat.le_refl _)) (fun e' he'=>ht e' (by omega)) (by simp) h.base
    (fun j hj kg=>by
      refine⟨⟨(vs++us)[j]'kg,by rw[World.cell?_alloc_new];simp⟩,World.frozen?_alloc_new ..,?_⟩
      simp only[Gh.eT]
      rw[if_neg (by omega)]
      exact rC h j)
    (fun o ho=>absurd (h.cX o _ ho) (Nat.lt_irrefl _)) (by simp)
    (fun t' e' xa xb cY ho hk=>by
      obtain⟨b1,Ve,Vf,k1,_,_,_,_,k6⟩:=h.own t' e' ho
      have :G.tok t' e'=some (w.heap.size,xa,xb):=hk
      rw[k1] at this
      simp at this
      omega)
    (fun c T' lo hi hc=>by rw[HN] at hc;cases hc;exact .inl rfl)
  exact⟨_,hle.trans hg.1,hg.2,(gz.added G w.heap.size 0 vs).mono hg.1,by simp[Gh.ij],fun _=>rfl,rfl⟩
def dw(l:List UInt8):List Value:=l.map fun b=>Value.int .u8 b.toNat
def gh(n:Nat):List Value:=List.replicate n (Value.int .u8 0)
theorem mz(l:List UInt8):ar G (l.map ae) (dw l):=by
  unfold dw;induction l with
  |nil=>simp[ar]
  |cons b l ih=>simp only[List.map_cons,ar];exact⟨_,_,rfl,by simp[ae,av],ih⟩
theorem fb(need old:Nat)(e:TypeId)(x:Nat):need≤(Question.appendCap need old e).cut x:=by simp[Question.cut]
theorem mA(e:TypeId)(b:ByteArray)(w:World):∃cap:Nat,b.size≤cap∧
    (Conv.stringToBytes e b).run P w=.ok (.slice (some ⟨w.heap.size,0,none⟩) b.size cap)
      ((w.drew.alloc (.cells (dw b.data.toList++gh (cap-b.size)).toArray e)).freeze ⟨w.heap.size,cap,none⟩ 1):=by
  refine⟨_,fb b.size 0 e (w.tape w.drawn (.appendCap b.size 0 e)),?_⟩;generalize gB:(Question.appendCap b.size 0 e).cut (w.tape w.drawn (.appendCap b.size 0 e))=cap;have hle:b.size≤cap:=(by rw[←gB];exact fb ..);have hf:(Question.appendCap b.size 0 e).forced=false:=rfl;have xbI:(b.data.map fun b=>Value.int .u8 b.toNat)++Array.replicate (cap-b.size) (Value.int .u8 0)=(dw b.data.toList++gh (cap-b.size)).toArray:=by
    apply Array.ext';simp[dw,gh]
  have fa:(dw b.data.toList++gh (cap-b.size)).toArray.size=cap:=by
    have :b.data.size=b.size:=rfl;simp[dw,gh];omega
  have Sq:(World.alloc w.drew (.cells (dw b.data.toList++gh (cap-b.size)).toArray e)).shape? w.heap.size=some (e,cap):=by
    have :(World.alloc w.drew (.cells (dw b.data.toList++gh (cap-b.size)).toArray e)).heap[w.heap.size]? =some (.cells (dw b.data.toList++gh (cap-b.size)).toArray e):=by
      show(w.heap.push _)[w.heap.size]? =_;rw[Array.getElem?_push_size]
    simp only[World.shape?,this];rw[fa]
  simp only[Conv.stringToBytes,Sem.run_bind,run_choose,hf,Bool.false_eq_true,if_false,Result.andThen_ok,gB,newRow,run_newObj_alloc,Sem.run_pure,xbI,markStringish,run_shape,World.drew_eq];rw[show w.drew.heap.size=w.heap.size from rfl,Sq];simp
theorem aQ.stringToBytes(h:aQ Γ G s w)(e:TypeId)(l:List UInt8)(k cap:Nat)(hk:l.length+k=cap)(t g:Nat)(ht:∀e',g≤e'→G.tok t e'=none):
    ∃G',G.le G'∧aQ Γ G' (s.bA t g) ((w.drew.alloc (.cells (dw l++gh k).toArray e)).freeze ⟨w.heap.size,cap,none⟩ 1)∧gz G' w.heap.size 0 (dw l)∧G'.tok t g=some (w.heap.size,l.length,cap):=by
  obtain⟨G',h1,h2,h3,h4,h5,h6⟩:=h.drew.pq (dw l) (gh k) e t g ht;have fa:(dw l++gh k).toArray.size=cap:=(by simp[dw,gh];omega);have hcell:∀c T fr,(w.drew.alloc (.cells (dw l++gh k).toArray e)).heap[w.heap.size]? =some (.cells c T fr)→c.size≤cap:=by
    intro c T fr hc;have :(w.drew.alloc (.cells (dw l++gh k).toArray e)).heap[w.heap.size]? =some (.cells (dw l++gh k).toArray e):=by
      show(w.drew.heap.push _)[w.drew.heap.size]? =_;rw[Array.getElem?_push_size]
    rw[this] at hc;cases hc;omega
  refine⟨G',h1,h2.B1 (fun b j=>vC ..) (fun b j hb hc=>?_) (vD ..).symm (sN _ _ _ (by rw[←h6];exact h.base)) (h2.others.trans (dn.freeze _ _ _)) (vE h2.soft hcell),h3,?_⟩
  · by_cases e':w.heap.size=b
    · subst e';have hj:j<(dw l++gh k).toArray.size:=by
        rcases Nat.lt_or_ge j (dw l++gh k).toArray.size with h|h
        · exact h
        · exact absurd (by
            have:=World.cell?_alloc_new w.drew (dw l++gh k).toArray e j;rw[show w.drew.heap.size=w.heap.size from rfl] at this;rw[this,Array.getElem?_eq_none h]) hc
      have:=sM w.drew (dw l++gh k).toArray e j hj;rw[fa] at this;have k2:=World.frozen?_alloc_new w.drew (dw l++gh k).toArray e j;rw[show w.drew.heap.size=w.heap.size from rfl] at this k2;rw[this,k2]
    · exact kQ _ _ _ _ _ e'
  · rw[h4];simp[dw,gh,hk]
theorem I8{src dst:TypeId}{x r:AV}{u:Value}(h:aconv P src dst x=some r)(hx:av G x u)(hs:aQ Γ G s w):
    ∃G' v w',(convert src dst u).run P w=.ok v w'∧G.le G'∧aQ Γ G' s w'∧av G' r v:=by
  unfold aconv at h;split at h
  · rename_i k k' FT FU;simp only[av] at hx;subst hx;cases h;exact⟨G,_,w,by simp[convert,run_underlying FT,run_underlying FU,Conv.intToInt];rfl,.refl G,hs,by simp[av,cE]⟩
  · rename_i FT FU;simp only[av] at hx;subst hx;cases h;exact⟨G,_,w,by simp[convert,run_underlying FT,run_underlying FU];rfl,.refl G,hs,by simp[av]⟩
  · rename_i e sz n cs sp FT FU;simp only[av] at hx;rcases hx with⟨b,off,cap,vs,rfl,hl,_,hv,qi,_⟩|⟨rfl,rfl,a,cap,rfl,_⟩|⟨rfl,rfl,rfl,rfl⟩;case inr.inl=>
      split at h
      · rename_i he;split at h
        · cases h;refine⟨G,.string (kW []),w,?_,.refl G,hs,by simp only[av]⟩;rw[run_convert_bytes_string w src dst e (some a) 0 cap FT he FU];have hl:(loadCells a 0).run P w=.ok #[] w:=run_loadCells_list (P:=P) w a [] (by simp);simp[Conv.bytesToString,hl,kW];rfl
        · cases h
      · cases h
    case inr.inr=>
      split at h
      · rename_i he;split at h
        · cases h;exact⟨G,_,w,run_convert_bytes_nil w src e FT he _ _ dst FU,.refl G,hs,by simp only[av];rfl⟩
        · cases h
      · cases h
    split at h
    · rename_i he;split at h
      · rename_i hc;obtain⟨rfl,bS⟩:=hc;cases h;obtain⟨xs,rfl,hb⟩:=po hv bS;have hlen:=hv.length;refine⟨G,_,w,run_convert_bytes_arg w src e FT he b off n cap xs (by simp at hlen;omega) (fun i hi=>?_) dst FU,.refl G,hs,?_⟩
        · have aY:i<xs.length:=(by simp at hlen;omega);exact hs.ro _ _ _ (qi i _ (by simp[aY,List.getD]))
        · simp only[av,strOfNums,kW,hb]
      · cases h
    · cases h
  · rename_i e _ _ FT FU;simp only[av] at hx;subst hx;split at h
    · rename_i he;cases h;exact⟨G,_,w,run_convert_bytes_nil w src e FT he _ _ dst FU,.refl G,hs,by simp only[av]⟩
    · cases h
  · rename_i e b FT FU;simp only[av] at hx;subst hx;split at h
    · rename_i he;cases h;obtain⟨cap,hle,lH⟩:=mA (P:=P) e b w;obtain⟨G',h1,h2,h3,_⟩:=hs.stringToBytes e b.data.toList (cap-b.size) cap (by have :b.data.size=b.size:=rfl;simp;omega) G.nt 0 (fun e' _=>hs.cb _ (Nat.le_refl _) e');refine⟨G',.slice (some ⟨w.heap.size,0,none⟩) b.size cap,_,?_,h1,h2.mono ⟨fun _ _ h=>h,fun t e he=>?_⟩,?_⟩
      · have :(convert src dst (.string b)).run P w=(Conv.stringToBytes e b).run P w:=by
          simp[convert,run_underlying FT,run_underlying FU,run_underlying he]
        rw[this,lH]
      · have :t≠G.nt:=(fun e'=>by subst e';rw[hs.gR (Nat.le_refl _)] at he;cases he);simpa[AS.bA,aB,this] using he
      · simp only[av];exact .inl ⟨w.heap.size,0,cap,dw b.data.toList,rfl,by have :b.data.size=b.size:=rfl;simp[this],hle,mz _,h3,trivial⟩
    · cases h
  · rename_i e0 e sz n cs FT FU;simp only[av] at hx;rcases hx with⟨b,off,cap,vs,rfl,hl,hn,hv,qi,gB,hB⟩|⟨_,_,a,cap,_,hm⟩|⟨_,_,hm,_⟩;case inr.inl=>rcases hm with hm|hm|⟨hm,_⟩<;>cases hm
    case inr.inr=>cases hm
    split at h
    · rename_i he;split at h
      · rename_i I9;subst I9;rw[FT] at FU;cases FU;cases h;obtain⟨w',q1,q2⟩:=hs.Om (P:=P) (b:=b) (off:=off) hB;refine⟨G,.slice (some ⟨b,off,none⟩) n cap,w',?_,.refl G,q2,?_⟩
        · simp[convert,run_underlying FT,run_underlying he,q1]
        · simp only[av];exact .inl ⟨b,off,cap,vs,rfl,hl,hn,hv,qi,gB,hB⟩
      · cases h
    · cases h
  · cases h
end Go.AM
namespace Go.AM
open Go Go.RowKit
variable{P:Program}{Γ:Nat→List AV}{G:Gh}{s:AS}{w:World}
theorem gz.drop{b off:Nat}{vs:List Value}(h:gz G b off vs)(n:Nat):gz G b (off+n) (vs.drop n):=by
  intro j u hj;rw[List.getElem?_drop] at hj;have:=h (n+j) u hj;rwa [show off+n+j=off+(n+j) from by omega]
theorem gz.take{b off:Nat}{vs:List Value}(h:gz G b off vs)(n:Nat):gz G b off (vs.take n):=by
  intro j u hj;rw[List.getElem?_take] at hj;split at hj
  · exact h j u hj
  · cases hj
theorem xw{T:TypeId}{x i r:AV}{u v:Value}(h:aindexAddr P T x i=some r)(hx:av G x u)(hi:av G i v):
    ∃z,(Instr.indexAt T u v).run P w=.ok z w∧av G r z:=by
  unfold aindexAddr at h;split at h
  · rename_i e sz n cs sp k j hu;simp only[av] at hx hi;subst hi;rcases hx with⟨b,off,cap,vs,rfl,hl,_,hv,qi,_⟩|⟨rfl,_,a,cap,rfl,_⟩|⟨rfl,_,_,rfl⟩;case inr.inl=>
      split at h
      · rename_i hc;obtain⟨h0,h1,_⟩:=hc;exact absurd h1 (by omega)
      · cases h
    case inr.inr=>
      split at h
      · rename_i hc;obtain⟨h0,h1,_⟩:=hc;exact absurd h1 (by omega)
      · cases h
    split at h
    · rename_i hc;obtain⟨h0,h1,rfl,hz⟩:=hc;cases h;refine⟨.pointer (some ⟨b,off+j.toNat*P.cellsOf e,none⟩),?_,?_⟩
      · simp[Instr.indexAt,run_underlying hu,asIntOf,h0,h1,aS hz,cI]
      · simp only[av];exact⟨b,_,_,rfl,(hv.drop _).take _,(qi.drop _).take _⟩
    · cases h
  · rename_i e o off sz n cap k j hu;simp only[av] at hx hi;subst hi;obtain⟨b,ho,rfl,_⟩:=hx;split at h
    · rename_i hc;obtain⟨h0,h1,rfl,hz⟩:=hc;cases h;refine⟨.pointer (some ⟨b,off+j.toNat*P.cellsOf e,none⟩),?_,?_⟩
      · simp[Instr.indexAt,run_underlying hu,asIntOf,h0,h1,aS hz,cI]
      · simp only[av];exact⟨b,ho,rfl⟩
    · cases h
  · rename_i n e o off k j hu;simp only[av] at hx hi;subst hi;obtain⟨b,ho,rfl⟩:=hx;split at h
    · rename_i hc;obtain⟨h0,h1,hz⟩:=hc;cases h;refine⟨.pointer (some ⟨b,off+j.toNat*P.cellsOf e,none⟩),?_,?_⟩
      · simp[Instr.indexAt,run_underlying hu,Instr.sureAddr,asIntOf,h0,h1,aS hz,cI]
      · simp only[av];exact⟨b,ho,rfl⟩
    · cases h
  · rename_i n e cs k j hu;simp only[av] at hx hi;subst hi;obtain⟨b,off,vs,rfl,hv,qi⟩:=hx;split at h
    · rename_i hc;obtain⟨h0,h1,hz⟩:=hc;cases h;refine⟨.pointer (some ⟨b,off+j.toNat*P.cellsOf e,none⟩),?_,?_⟩
      · simp[Instr.indexAt,run_underlying hu,Instr.sureAddr,asIntOf,h0,h1,aS hz,cI]
      · simp only[av];exact⟨b,_,_,rfl,hv.drop _,qi.drop _⟩
    · cases h
  · cases h
theorem F8{T:TypeId}{x i r:AV}{u v:Value}(h:aindex P T x i=some r)(hx:av G x u)(hi:av G i v):
    ∃z,(Instr.index T u v).run P w=.ok z w∧av G r z:=by
  unfold aindex at h;split at h
  · rename_i n e cs k j hu;simp only[av] at hx hi;subst hi;obtain⟨vs,rfl,hv⟩:=hx;split at h
    · rename_i hc;obtain⟨h0,h1,hz⟩:=hc;obtain⟨z,Ki,xx⟩:=AL (w:=w) h hz hv;refine⟨z,?_,xx⟩;simp[Instr.index,run_underlying hu,asIntOf,h0,h1,aS hz,Ki]
    · cases h
  · rename_i b k j hu;simp only[av] at hx hi;subst hi hx;split at h
    · rename_i h0;split at h
      · rename_i c hc;cases h;refine⟨.int .u8 c.toNat,?_,by simp[ae,av]⟩;simp[Instr.index,run_underlying hu,asIntOf,h0,hc]
      · cases h
    · cases h
  · cases h
theorem run_sliceBound{x:Value}{y:Nat}{code:BoundsCode}{k:IntKind}{i:Int}(hx:x=.int k i)(h0:0≤i)(h1:i≤y):
    (Instr.sliceBound x y code).run P w=.ok i.toNat w:=by
  subst hx;simp[Instr.sliceBound,asIntOf,h0,h1]
inductive kE(G:Gh):Option AV→Option Value→Prop
  |none:kE G .none .none
  |some {a:AV} {v:Value}:av G a v→kE G (.some a) (.some v)
theorem bL{d l:Int}{a:Option AV}{v:Option Value}(h:dR d a=some l)(hr:kE G a v):(v=none∧l=d)∨∃k,v=some (.int k l):=by
  cases hr with
  |none=>simp[dR] at h;exact .inl ⟨rfl,h.symm⟩
  |some hv=>
    rename_i a v;cases a<;>simp[dR] at h;rename_i x;cases x<;>simp[dR] at h;simp only[av] at hv;subst hv h;exact .inr ⟨_,rfl⟩
theorem cU{isSlice:Bool}{len cap:Nat}{l h:Int}{lo hi:Option Value}(B2:(lo=none∧l=0)∨∃k,lo=some (.int k l))(Dv:(hi=none∧h=len)∨∃k,hi=some (.int k h))
    (h0:0≤l) (h1:l≤h) (h2:h≤cap) (w:World):
    (Instr.sliceBounds isSlice len cap lo hi none).run P w=.ok (l.toNat,h.toNat,cap) w:=by
  unfold Instr.sliceBounds;rcases Dv with⟨rfl,rfl⟩|⟨k',rfl⟩
  · rcases B2 with⟨rfl,rfl⟩|⟨k,rfl⟩
    · simp
    · simp[run_sliceBound (P:=P) (w:=w) (x:=.int k l) (y:=len) (code:=.sliceB) rfl h0 h1]
  · rcases B2 with⟨rfl,rfl⟩|⟨k,rfl⟩
    · simp[run_sliceBound (P:=P) (w:=w) (x:=.int k' h) (y:=cap) rfl (by omega) h2]
    · have e:((h.toNat:Nat):Int)=h:=(by omega);simp[run_sliceBound (P:=P) (w:=w) (x:=.int k' h) (y:=cap) rfl (by omega) h2,run_sliceBound (P:=P) (w:=w) (x:=.int k l) (y:=h.toNat) (code:=.sliceB) rfl h0 (by omega)]
theorem fR{isSlice:Bool}{len cap:Nat}{l h m:Int}{lo:Option Value}{k1 k2:IntKind}(B2:(lo=none∧l=0)∨∃k,lo=some (.int k l))
    (h0:0≤l) (h1:l≤h) (h2:h≤m) (h3:m≤cap) (w:World):
    (Instr.sliceBounds isSlice len cap lo (some (.int k1 h)) (some (.int k2 m))).run P w=.ok (l.toNat,h.toNat,m.toNat) w:=by
  unfold Instr.sliceBounds;rcases B2 with⟨rfl,rfl⟩|⟨k,rfl⟩
  · simp[run_sliceBound (P:=P) (w:=w) (x:=.int k2 m) (y:=cap) rfl (by omega) h3,run_sliceBound (P:=P) (w:=w) (x:=.int k1 h) (y:=m.toNat) (code:=.slice3B) rfl (by omega) (by omega)]
  · simp[run_sliceBound (P:=P) (w:=w) (x:=.int k2 m) (y:=cap) rfl (by omega) h3,run_sliceBound (P:=P) (w:=w) (x:=.int k1 h) (y:=m.toNat) (code:=.slice3B) rfl (by omega) (by omega),
      run_sliceBound (P:=P) (w:=w) (x:=.int k l) (y:=h.toNat) (code:=.slice3C) rfl h0 (by omega)]
theorem fc{T e:TypeId}(hu:P.underlying T=some (.slice e))(x:Value)(lo hi mx:Option Value):(Instr.sliceAt T x lo hi mx).run P w=(Instr.slice T x lo hi mx).run P w:=by
  simp[Instr.sliceAt,run_underlying hu]
theorem xy{T:TypeId}(hu:P.underlying T=some .string)(x:Value)(lo hi mx:Option Value):(Instr.sliceAt T x lo hi mx).run P w=(Instr.slice T x lo hi mx).run P w:=by
  simp[Instr.sliceAt,run_underlying hu]
end Go.AM
namespace Go.AM
open Go Go.RowKit
variable{P:Program}{Γ:Nat→List AV}{G:Gh}{s:AS}{w:World}
theorem rD(b off l sz:Nat)(m:Nat)(sO:m=l∨m≠l):(if m=l then(some ⟨b,off,none⟩:Option Addr) else(some ⟨b,off,none⟩:Option Addr).map (·.add (l*sz)))=some ⟨b,if m=l then off else off+l*sz,none⟩:=by
  rcases sO with h|h<;>simp[h,cI]
theorem F9{T:TypeId}{x r:AV}{u:Value}{lo hi mx:Option AV}{Sn aY mx':Option Value}(h:aslice P T x lo hi mx=some r)(hx:av G x u)
    (B2:kE G lo Sn) (Dv:kE G hi aY) (Ja:kE G mx mx'):
    ∃z,(Instr.sliceAt T u Sn aY mx').run P w=.ok z w∧av G r z:=by
  unfold aslice at h
  split at h
  · -- a read-only slice
    rename_i e sz n cs sp hu
    simp only[av] at hx
    rcases hx with⟨b,off,cap,vs,rfl,hl,B3,hv,qi,rE⟩|⟨rfl,rfl,a,cap,rfl,rE⟩|⟨rfl,rfl,rfl,rfl⟩
    case inr.inl=>
      split at h
      · rename_i l h' m o1 o2 o3
        split at h
        · rename_i hc
          obtain⟨c0,c1,c2,c3,c4,c5,c6⟩:=hc
          have uA:l=0:=by omega
          have hh0:h'=0:=by omega
          subst uA hh0
          cases h
          subst c5
          have q1:=bL o1 B2
          have q2:=bL o2 Dv
          rw[fc hu]
          cases Ja with
          |none=>
            have hb:=cU (P:=P) (isSlice:=true) (len:=0) (cap:=cap) q1 q2 (Int.le_refl 0) (Int.le_refl 0) (by omega) w
            refine⟨.slice (some a) 0 cap,?_,?_⟩
            · simp[Instr.slice,run_underlying hu,hb,aS c6,Addr.add]
            · simp only[av]
              refine .inr (.inl ⟨by simp,by simp,a,cap,rfl,?_⟩)
              rcases rE with rfl|rfl|⟨rfl,rfl⟩<;>simp
          |some hm=>
            rename_i ma mv
            have q3:=bL o3 (kE.some hm)
            obtain⟨k2,Dw⟩:∃k,some mv=some (.int k m):=by
              rcases q3 with⟨q,_⟩|q
              · cases q
              · exact q
            have sP:m=0:=by have:=c3 rfl;omega
            subst sP
            cases Dw
            have fO:∃k1,aY=some (.int k1 0):=by
              rcases q2 with⟨q,q'⟩|q
              · subst q
                cases Dv
                exact absurd (c4 rfl) (by simp)
              · exact q
            obtain⟨k1,rfl⟩:=fO
            have hb:=fR (P:=P) (isSlice:=true) (len:=0) (cap:=cap) (k1:=k1) (k2:=k2) q1 (Int.le_refl 0) (Int.le_refl 0) (Int.le_refl 0) (by omega) w
            refine⟨.slice (some a) 0 0,?_,?_⟩
            · simp[Instr.slice,run_underlying hu,hb,aS c6,Addr.add]
            · simp only[av]
              refine .inr (.inl ⟨by simp,by simp,a,0,rfl,?_⟩)
              rcases rE with rfl|rfl|⟨rfl,rfl⟩<;>simp
        · cases h
      · cases h
    case inr.inr=>
      split at h
      · rename_i l h' m o1 o2 o3
        split at h
        · rename_i hc
          obtain⟨c0,c1,c2,c3,c4,c5,c6⟩:=hc
          have uA:l=0:=by omega
          have hh0:h'=0:=by omega
          subst uA hh0
          cases h
          subst c5
          have q1:=bL o1 B2
          have q2:=bL o2 Dv
          rw[fc hu]
          refine⟨.slice none 0 0,?_,by simp only[av];exact .inr (.inr ⟨by simp,by simp,by simp,by simp⟩)⟩
          cases Ja with
          |none=>
            have hb:=cU (P:=P) (isSlice:=true) (len:=0) (cap:=0) q1 q2 (Int.le_refl 0) (Int.le_refl 0) (Int.le_refl 0) w
            simp[Instr.slice,run_underlying hu,hb,aS c6]
          |some hm=>
            rename_i ma mv
            have q3:=bL o3 (kE.some hm)
            obtain⟨k2,Dw⟩:∃k,some mv=some (.int k m):=by
              rcases q3 with⟨q,_⟩|q
              · cases q
              · exact q
            have sP:m=0:=by have:=c3 rfl;omega
            subst sP
            cases Dw
            have fO:∃k1,aY=some (.int k1 0):=by
              rcases q2 with⟨q,q'⟩|q
              · subst q
                cases Dv
                exact absurd (c4 rfl) (by simp)
              · exact q
            obtain⟨k1,rfl⟩:=fO
            have hb:=fR (P:=P) (isSlice:=true) (len:=0) (cap:=0) (k1:=k1) (k2:=k2) q1 (Int.le_refl 0) (Int.le_refl 0) (Int.le_refl 0) (Int.le_refl 0) w
            simp[Instr.slice,run_underlying hu,hb,aS c6]
        · cases h
      · cases h
    split at h
    · rename_i l h' m o1 o2 o3
      split at h
      · rename_i hc
        obtain⟨c0,c1,c2,c3,c4,c5,c6⟩:=hc
        cases h
        subst c5
        have q1:=bL o1 B2
        have q2:=bL o2 Dv
        have hlen:=hv.length
        have gw:((cs.take (h'.toNat*P.cellsOf e)).drop (l.toNat*P.cellsOf e)).length=(h'.toNat-l.toNat)*P.cellsOf e:=by
          have :h'.toNat*P.cellsOf e≤n*P.cellsOf e:=Nat.mul_le_mul_right _ (by omega)
          simp only[List.length_drop,List.length_take,hl,Nat.sub_mul]
          omega
        have xhj:l.toNat≤h'.toNat:=by omega
        rw[fc hu]
        cases Ja with
        |none=>
          have hb:=cU (P:=P) (isSlice:=true) (len:=n) (cap:=cap) q1 q2 c0 c1 (by omega) w
          refine⟨.slice (some ⟨b,if cap=l.toNat then off else off+l.toNat*P.cellsOf e,none⟩) (h'.toNat-l.toNat) (cap-l.toNat),?_,?_⟩
          · simp only[Instr.slice,Sem.run_bind,run_underlying hu,Result.andThen_ok,hb,aS c6,Sem.run_pure]
            rw[rD _ _ _ _ _ (Decidable.em _)]
          · simp only[av]
            refine .inl ⟨b,_,_,(vs.take (h'.toNat*P.cellsOf e)).drop (l.toNat*P.cellsOf e),rfl,gw,by omega,(hv.take _).drop _,?_,?_⟩
            · by_cases gB:cap=l.toNat
              · rw[if_pos gB]
                have :(vs.take (h'.toNat*P.cellsOf e)).drop (l.toNat*P.cellsOf e)=[]:=by
                  apply List.drop_eq_nil_of_le
                  have :h'.toNat*P.cellsOf e≤l.toNat*P.cellsOf e:=Nat.mul_le_mul_right _ (by omega)
                  simp only[List.length_take];omega
                rw[this]
                intro j u hj;simp at hj
              · rw[if_neg gB];exact(qi.take _).drop _
            · simp only[Option.isSome_none,Bool.false_eq_true,if_false]
              by_cases hn:h'=(n:Int)
              · have hn':h'.toNat=n:=by omega
                cases sp with
                |no=>exact True.intro
                |any=>exact True.intro
                |full=>simp only[if_pos hn];simp only[eC] at rE⊢;omega
                |new=>simp only[if_pos hn];simp only[eC] at rE⊢;exact⟨by omega,rE.2⟩
                |own t g=>
                  simp only[if_pos hn]
                  by_cases uA:l=0
                  · subst uA
                    rw[if_pos rfl]
                    simp only[eC] at rE⊢
                    rw[hn',rE]
                    by_cases NV:cap=(0:Int).toNat<;>simp[NV]
                  · rw[if_neg uA];exact True.intro
              · cases sp<;>first |exact True.intro|(simp only[if_neg hn];exact True.intro)
        |some hm=>
          rename_i ma mv
          have q3:=bL o3 (kE.some hm)
          have hhm:h'=m:=c3 rfl
          subst hhm
          obtain⟨k2,Dw⟩:∃k,some mv=some (.int k h'):=by
            rcases q3 with⟨q,_⟩|q
            · cases q
            · exact q
          cases Dw
          have fO:∃k1,aY=some (.int k1 h'):=by
            rcases q2 with⟨q,q'⟩|q
            · subst q
              cases Dv
              exact absurd (c4 rfl) (by simp)
            · exact q
          obtain⟨k1,rfl⟩:=fO
          have hb:=fR (P:=P) (isSlice:=true) (len:=n) (cap:=cap) (k1:=k1) (k2:=k2) q1 c0 c1 (Int.le_refl h') (by omega) w
          refine⟨.slice (some ⟨b,if h'.toNat=l.toNat then off else off+l.toNat*P.cellsOf e,none⟩) (h'.toNat-l.toNat) (h'.toNat-l.toNat),?_,?_⟩
          · simp only[Instr.slice,Sem.run_bind,run_underlying hu,Result.andThen_ok,hb,aS c6,Sem.run_pure]
            rw[rD _ _ _ _ _ (Decidable.em _)]
          · simp only[av]
            refine .inl ⟨b,_,_,(vs.take (h'.toNat*P.cellsOf e)).drop (l.toNat*P.cellsOf e),rfl,gw,by omega,(hv.take _).drop _,?_,?_⟩
            · by_cases gB:h'.toNat=l.toNat
              · rw[if_pos gB]
                have :(vs.take (h'.toNat*P.cellsOf e)).drop (l.toNat*P.cellsOf e)=[]:=by
                  apply List.drop_eq_nil_of_le
                  simp only[List.length_take,gB];omega
                rw[this]
                intro j u hj;simp at hj
              · rw[if_neg gB];exact(qi.take _).drop _
            · cases sp<;>simp[eC]
      · cases h
    · cases h
  · -- nil
    rename_i e hu
    simp only[av] at hx
    subst hx
    split at h
    · rename_i l h' m o1 o2 o3
      split at h
      · rename_i hc
        obtain⟨rfl,rfl,rfl,c6,c4⟩:=hc
        cases h
        have q1:=bL o1 B2
        have q2:=bL o2 Dv
        rw[fc hu]
        refine⟨.slice none 0 0,?_,by simp[av]⟩
        cases Ja with
        |none=>
          have hb:=cU (P:=P) (isSlice:=true) (len:=0) (cap:=0) q1 (by simpa using q2) (Int.le_refl 0) (Int.le_refl 0) (Int.le_refl 0) w
          simp[Instr.slice,run_underlying hu,hb,aS c6]
        |some hm=>
          rename_i ma mv
          have q3:=bL o3 (kE.some hm)
          obtain⟨k2,Dw⟩:∃k,some mv=some (.int k 0):=by
            rcases q3 with⟨q,_⟩|q
            · cases q
            · exact q
          cases Dw
          have fO:∃k1,aY=some (.int k1 0):=by
            rcases q2 with⟨q,q'⟩|q
            · subst q
              cases Dv
              exact absurd (c4 rfl) (by simp)
            · exact q
          obtain⟨k1,rfl⟩:=fO
          have hb:=fR (P:=P) (isSlice:=true) (len:=0) (cap:=0) (k1:=k1) (k2:=k2) q1 (Int.le_refl 0) (Int.le_refl 0) (Int.le_refl 0) (Int.le_refl 0) w
          simp[Instr.slice,run_underlying hu,hb,aS c6]
      · cases h
    · cases h
  · -- a slice of an object
    rename_i e o off sz n cap hu
    simp only[av] at hx
    obtain⟨b,ho,rfl,B3⟩:=hx
    split at h
    · rename_i l h' o1 o2
      cases Ja
      split at h
      · rename_i hc
        obtain⟨c0,c1,c2,rfl,c6⟩:=hc
        cases h
        have q1:=bL o1 B2
        have q2:=bL o2 Dv
        rw[fc hu]
        have hb:=cU (P:=P) (isSlice:=true) (len:=n) (cap:=cap) q1 q2 c0 c1 c2 w
        refine⟨.slice (some ⟨b,if cap=l.toNat then off else off+l.toNat*P.cellsOf e,none⟩) (h'.toNat-l.toNat) (cap-l.toNat),?_,?_⟩
        · simp only[Instr.slice,Sem.run_bind,run_underlying hu,Result.andThen_ok,hb,aS c6,Sem.run_pure]
          rw[rD _ _ _ _ _ (Decidable.em _)]
        · simp only[av]
          refine⟨b,ho,?_,by omega⟩
          by_cases gB:cap=l.toNat
          · rw[if_pos gB,if_pos (by omega)]
          · rw[if_neg gB,if_neg (by omega)]
      · cases h
    · cases h
  · -- an array's address
    rename_i n e o off hu
    simp only[av] at hx
    obtain⟨b,ho,rfl⟩:=hx
    split at h
    · rename_i l h' o1 o2
      cases Ja
      split at h
      · rename_i hc
        obtain⟨c0,c1,c2,c6⟩:=hc
        cases h
        have q1:=bL o1 B2
        have q2:=bL o2 Dv
        have hb:=cU (P:=P) (isSlice:=false) (len:=n) (cap:=n) q1 q2 c0 c1 c2 w
        refine⟨.slice (some ⟨b,if n=l.toNat then off else off+l.toNat*P.cellsOf e,none⟩) (h'.toNat-l.toNat) (n-l.toNat),?_,?_⟩
        · simp only[Instr.sliceAt,Sem.run_bind,run_underlying hu,Result.andThen_ok,Instr.sureAddr,Sem.run_pure,hb,aS c6]
          by_cases gB:n=l.toNat
          · simp[gB]
          · simp[gB,cI]
        · simp only[av]
          refine⟨b,ho,?_,by omega⟩
          by_cases gB:n=l.toNat
          · rw[if_pos gB,if_pos (by omega)]
          · rw[if_neg gB,if_neg (by omega)]
      · cases h
    · cases h
  · -- a string
    rename_i b hu
    simp only[av] at hx
    subst hx
    split at h
    · rename_i l h' o1 o2
      cases Ja
      split at h
      · rename_i hc
        obtain⟨c0,c1,c2⟩:=hc
        cases h
        have q1:=bL o1 B2
        have q2:=bL o2 Dv
        rw[xy hu]
        have hb:=cU (P:=P) (isSlice:=false) (len:=b.size) (cap:=b.size) q1 q2 c0 c1 c2 w
        exact⟨.string (b.extract l.toNat h'.toNat),by simp[Instr.slice,run_underlying hu,hb],by simp[av]⟩
      · cases h
    · cases h
  · cases h
theorem B4{b:Builtin}{argTypes:Array TypeId}{args:List AV}{vs:List Value}{T:TypeId}{consts:Array Bool}{r:AV}(h:abuiltin P b argTypes args=some r)(hv:ar G args vs):
    ∃z,(builtin b argTypes T consts vs.toArray).run P w=.ok (.value z) w∧av G r z:=by
  unfold abuiltin at h;split at h
  · rename_i x;simp only[ar] at hv;obtain⟨u,us,rfl,hx,rfl⟩:=hv;split at h
    · rename_i e sz n cs sp hu;obtain⟨t,ht,hu⟩:=Option.bind_eq_some_iff.1 hu;simp only[av] at hx;cases h;rcases hx with⟨b,off,cap,vs,rfl,_⟩|⟨rfl,rfl,a,cap,rfl,_⟩|⟨rfl,rfl,rfl,rfl⟩
      · exact⟨.int .i64 n,by simp[builtin,Builtin.len_,ht,run_underlying hu,goInt],by simp[av]⟩
      · exact⟨.int .i64 0,by simp[builtin,Builtin.len_,ht,run_underlying hu,goInt],by simp[av]⟩
      · exact⟨.int .i64 0,by simp[builtin,Builtin.len_,ht,run_underlying hu,goInt],by simp[av]⟩
    · rename_i e o off sz n cap hu;obtain⟨t,ht,hu⟩:=Option.bind_eq_some_iff.1 hu;simp only[av] at hx;obtain⟨b,_,rfl,_⟩:=hx;cases h;exact⟨.int .i64 n,by simp[builtin,Builtin.len_,ht,run_underlying hu,goInt],by simp[av]⟩
    · rename_i e n cap hu;obtain⟨t,ht,hu⟩:=Option.bind_eq_some_iff.1 hu;simp only[av] at hx;subst hx;cases h;exact⟨.int .i64 n,by simp[builtin,Builtin.len_,ht,run_underlying hu,goInt],by simp[av]⟩
    · rename_i b hu;obtain⟨t,ht,hu⟩:=Option.bind_eq_some_iff.1 hu;simp only[av] at hx;subst hx;cases h;exact⟨.int .i64 b.size,by simp[builtin,Builtin.len_,ht,run_underlying hu,goInt],by simp[av]⟩
    · rename_i n e hu;obtain⟨t,ht,hu⟩:=Option.bind_eq_some_iff.1 hu;cases h;exact⟨.int .i64 n,by simp[builtin,Builtin.len_,ht,run_underlying hu,goInt],by simp[av]⟩
    · cases h
  · rename_i x;simp only[ar] at hv;obtain⟨u,us,rfl,hx,rfl⟩:=hv;split at h
    · rename_i e o off sz n cap hu;obtain⟨t,ht,hu⟩:=Option.bind_eq_some_iff.1 hu;simp only[av] at hx;obtain⟨b,_,rfl,_⟩:=hx;cases h;exact⟨.int .i64 cap,by simp[builtin,Builtin.cap_,ht,run_underlying hu,goInt],by simp[av]⟩
    · rename_i e n cap hu;obtain⟨t,ht,hu⟩:=Option.bind_eq_some_iff.1 hu;simp only[av] at hx;subst hx;cases h;exact⟨.int .i64 cap,by simp[builtin,Builtin.cap_,ht,run_underlying hu,goInt],by simp[av]⟩
    · rename_i e sz n cs hu;obtain⟨t,ht,hu⟩:=Option.bind_eq_some_iff.1 hu;simp only[av,eC] at hx;cases h;rcases hx with⟨b,off,cap,vs,rfl,_,_,_,_,rfl⟩|⟨rfl,rfl,a,cap,rfl,rE⟩|⟨_,_,rE,_⟩
      · exact⟨.int .i64 _,by simp[builtin,Builtin.cap_,ht,run_underlying hu,goInt];rfl,by simp[av]⟩
      · obtain rfl:cap=0:=(by simpa using rE);exact⟨.int .i64 0,by simp[builtin,Builtin.cap_,ht,run_underlying hu,goInt],by simp[av]⟩
      · simp at rE
    · rename_i e sz n cs hu;obtain⟨t,ht,hu⟩:=Option.bind_eq_some_iff.1 hu;simp only[av,eC] at hx;rcases hx with⟨b,off,cap,vs,rfl,_,_,_,_,rfl,_⟩|⟨_,_,a,cap,_,hm⟩|⟨_,_,hm,_⟩;case inr.inl=>rcases hm with hm|hm|⟨hm,_⟩<;>cases hm
      case inr.inr=>cases hm
      cases h;exact⟨.int .i64 _,by simp[builtin,Builtin.cap_,ht,run_underlying hu,goInt];rfl,by simp[av]⟩
    · cases h
  · rename_i k x k' y;simp only[ar,av] at hv;obtain⟨u,us,rfl,rfl,v,wu,rfl,rfl,rfl⟩:=hv;split at h
    · rename_i hk;cases h;exact⟨_,by simp[builtin,Builtin.min_,Builtin.min2];rfl,by simp[av]⟩
    · cases h
  · rename_i k x k' y;simp only[ar,av] at hv;obtain⟨u,us,rfl,rfl,v,wu,rfl,rfl,rfl⟩:=hv;split at h
    · rename_i hk;cases h;exact⟨_,by simp[builtin,Builtin.max_,Builtin.max2];rfl,by simp[av]⟩
    · cases h
  · cases h
end Go.AM
namespace Go.AM
open Go Go.RowKit
variable{P:Program}{Γ:Nat→List AV}{G:Gh}{s:AS}{w:World}
def nJ(cells:List Value)(off:Nat):List Value→List Value
  |[]=>cells
  |x::xs=>nJ (cells.set off x) (off+1) xs
theorem pr:∀(xs cells:List AV)(off:Nat),(bp cells off xs).length=cells.length
  |[],_,_=>rfl
  |x::xs,cells,off=>by simp[bp,pr xs]
theorem AO:∀(us:List Value)(cells:Array Value)(off k:Nat),
    (us.zipIdx k).foldl (fun cs(p:Value×Nat)=>cs.setIfInBounds (off+p.2) p.1) cells=(nJ cells.toList (off+k) us).toArray
  |[],cells,off,k=>by simp[nJ]
  |u::us,cells,off,k=>by
    simp only[List.zipIdx_cons,List.foldl_cons,nJ];rw[AO us];simp[Nat.add_assoc]
theorem ar.Ky:∀{ds:List AV}{us:List Value}{cs:List AV}{vs:List Value}(off:Nat),ar G cs vs→ar G ds us→ar G (bp cs off ds) (nJ vs off us)
  |[],us,cs,vs,off,h,k=>by simp only[ar] at k;subst k;simpa[bp,nJ] using h
  |d::ds,us,cs,vs,off,h,k=>by
    simp only[ar] at k;obtain⟨u,wu,rfl,h2,h3⟩:=k;simp only[bp,nJ];exact ar.Ky (off+1) (h.set off h2) h3
inductive eV(G:Gh):List (Nat×AV)→List (Nat×Value)→Prop
  |nil:eV G [] []
  |cons (i:Nat) {a:AV} {v:Value} {as:List (Nat×AV)} {vs:List (Nat×Value)}:av G a v→eV G as vs→eV G ((i,a)::as) ((i,v)::vs)
theorem eV.of_map{ρ:Operand→AV}{ρ':Operand→Value}(h:∀x,av G (ρ x) (ρ' x)):∀(l:List (Nat×Operand)),eV G (l.map fun p=>(p.1,ρ p.2)) (l.map fun p=>(p.1,ρ' p.2))
  |[]=>.nil
  |(i,x)::l=>.cons _ (h x) (eV.of_map h l)
theorem kh(place:Nat→Option (Nat×Nat)):∀{ps:List (Nat×AV)}{qs:List (Nat×Value)}{cs cs':List AV}{vs:List Value},iY place cs ps=some cs'→eV G ps qs→ar G cs vs→
    ∃NU:List Value,Instr.fill place vs.toArray qs=some NU.toArray∧ar G cs' NU
  |[],qs,cs,cs',vs,h,hp,hv=>by
    cases hp;simp[iY] at h;subst h;exact⟨vs,by simp[Instr.fill],hv⟩
  |(_,a)::ps,qs,cs,cs',vs,h,hp,hv=>by
    cases hp with
    |cons _ ha hp=>
      rename_i v qs;unfold iY at h;split at h
      · cases h
      · rename_i off size xz;split at h
        · cases h
        · rename_i hc;have kF:=lG ha;have UD:=kF.length;have DS:=hv.length;have Jb:v.cells.toList.length=v.cells.size:=(by simp);obtain⟨NU,h1,h2⟩:=kh place h hp (hv.Ky off kF);refine⟨NU,?_,h2⟩;simp only[Instr.fill,xz];rw[if_neg]
          · rw[←h1];congr 1;have:=AO v.cells.toList vs.toArray off 0;rw[←Array.foldl_toList,Array.toList_zipIdx];exact this
          · simp only[not_or,Nat.not_lt,ne_eq,Classical.not_not,Bool.or_eq_true,decide_eq_true_eq] at hc⊢;refine⟨by omega,?_⟩;simp only[List.size_toArray];omega
theorem dD{t:TypeId}{z:List AV}(h:bo P t=some z):∃v,(∀w,(zeroValue t).run P w=.ok v w)∧z=v.cells.toList.map .v:=by
  unfold bo at h;cases hi:P.info? t with
  |none=>simp[hi] at h
  |some i=>
    simp[hi] at h;obtain⟨v,h1,h2⟩:=h;exact⟨v,fun w=>by simp[zeroValue,typeInfo,hi,h1],h2.symm⟩
theorem wx(fs:Array Field)(bS:fs.all (fun f=>(P.info? f.type).isSome)=true)(w:World):
    (fs.mapM fun f=>(do pure (f.offset,←sizeOf f.type):Sem (Nat×Nat))).run P w=.ok (fs.map fun f=>(f.offset,P.cellsOf f.type)) w:=by
  have key:∀(l:List Field),(∀f∈l,(P.info? f.type).isSome=true)→(l.mapM fun f=>(do pure (f.offset,←sizeOf f.type):Sem (Nat×Nat))).run P w=.ok (l.map fun f=>(f.offset,P.cellsOf f.type)) w:=by
    intro l;induction l with
    |nil=>intro _;simp
    |cons f l ih=>
      intro hl;simp only[List.mapM_cons,Sem.run_bind,wv (hl f (by simp)),Result.andThen_ok,Sem.run_pure,ih (fun g hg=>hl g (by simp[hg]))];simp
  rw[Array.mapM_eq_mapM_toList];simp only[Sem.run_map];rw[key fs.toList (fun f hf=>by
    rw[Array.all_eq_true_iff_forall_mem] at bS;exact bS f (by simpa using hf))]
  simp only[Result.andThen_ok];congr 1;apply Array.ext';simp
theorem run_build{T:TypeId}{parts:List (Nat×AV)}{qs:Array (Nat×Value)}{r:AV}
    (h:(match P.underlying T,bo P T with
      |some (.struct _),some z=>
        if fm P T=true then(iY (placeOf P T) z parts).map .agg else none
      |some (.array _ e),some z=>if P.cellsOf e=0 then none else(iY (fun i=>some (i*P.cellsOf e,P.cellsOf e)) z parts).map .agg
      |_,_=>none)=some r) (hp:eV G parts qs.toList):
    ∃v,(Instr.build T qs).run P w=.ok v w∧av G r v:=by
  split at h
  · rename_i fs z hu hz;obtain⟨v,hv,rfl⟩:=dD hz;split at h
    · rename_i bS;have bS:fs.all (fun f=>(P.info? f.type).isSome)=true:=(by simpa[fm,hu] using bS);have Sr:placeOf P T=fun(i:Nat)=>(fs[i]?).map fun(f:Field)=>(f.offset,P.cellsOf f.type):=by
        funext i;simp only[placeOf,b6,hu];cases fs[i]? <;>rfl
      rw[Sr] at h;simp only[Option.map_eq_some_iff] at h;obtain⟨cs,h1,rfl⟩:=h;obtain⟨vs,h2,h3⟩:=kh _ h1 hp (ar.DK (G:=G) v.cells.toList);refine⟨.agg vs.toArray,?_,by simp only[av];exact⟨vs,rfl,h3⟩⟩;have e:(fun(i:Nat)=>(fs.map fun(f:Field)=>(f.offset,P.cellsOf f.type))[i]?)=fun(i:Nat)=>(fs[i]?).map fun(f:Field)=>(f.offset,P.cellsOf f.type):=by
        funext i;simp
      simp only[Instr.build,Sem.run_bind,hv,Result.andThen_ok,run_underlying hu,wx fs bS];simp only[Array.toArray_toList] at h2;simp only[e,h2];rfl
    · cases h
  · rename_i n e z hu hz;obtain⟨v,hv,rfl⟩:=dD hz;split at h
    · cases h
    · rename_i cY;simp only[Option.map_eq_some_iff] at h;obtain⟨cs,h1,rfl⟩:=h;obtain⟨vs,h2,h3⟩:=kh _ h1 hp (ar.DK (G:=G) v.cells.toList);refine⟨.agg vs.toArray,?_,by simp only[av];exact⟨vs,rfl,h3⟩⟩;simp only[Array.toArray_toList] at h2;simp[Instr.build,hv,run_underlying hu,aS cY,h2]
  · cases h
theorem rF{z:List Value}(n:Nat)(hz:z≠[]):ar G (nG n (z.map .v)) ((List.range n).map fun i=>z.toArray[i%z.toArray.size]!):=by
  have key:∀(l:List Nat),ar G (l.map fun i=>(z.map AV.v).getD (i%(z.map AV.v).length) (.v default)) (l.map fun i=>z.toArray[i%z.toArray.size]!):=by
    intro l;induction l with
    |nil=>simp[ar]
    |cons i l ih=>
      simp only[List.map_cons,ar];refine⟨_,_,rfl,?_,ih⟩;have bJ:i%z.length<z.length:=Nat.mod_lt _ (List.length_pos_iff.2 hz);simp[av,bJ,List.getD]
  exact key _
theorem wy(hs:aQ Γ G s w){T:TypeId}{len:Nat}{parts:List (Nat×AV)}{qs:Array (Nat×Value)}{r:AV}
    (h:(match P.underlying T with
      |some (.slice e)=>
        match bo P e with
        |some z=>
          if P.cellsOf e=0∨len*P.cellsOf e>2^24∨z.length≠P.cellsOf e then none else
          (iY (fun i=>some (i*P.cellsOf e,P.cellsOf e)) (nG (len*P.cellsOf e) z) parts).map fun cs=>.sl (P.cellsOf e) len cs .new
        |none=>none
      |_=>none)=some r) (hp:eV G parts qs.toList):
    ∃G' v w',(Instr.buildSlice T len qs).run P w=.ok v w'∧G.le G'∧aQ Γ G' s w'∧av G' r v:=by
  split at h
  · rename_i e hu;split at h
    · rename_i z hz;obtain⟨v,hv,rfl⟩:=dD hz;split at h
      · cases h
      · rename_i hc;simp only[not_or,ne_eq,Classical.not_not,Nat.not_lt,gt_iff_lt] at hc;obtain⟨c1,c2,c3⟩:=hc;simp only[Option.map_eq_some_iff] at h;obtain⟨cs,h1,rfl⟩:=h;have cY:v.cells.toList≠[]:=by
          intro e';rw[e'] at c3;simp at c3;omega
        obtain⟨vs,h2,h3⟩:=kh (G:=G) _ h1 hp (rF (len*P.cellsOf e) cY);have hlen:cs.length=len*P.cellsOf e:=by
          have :∀{place:Nat→Option (Nat×Nat)}{ps:List (Nat×AV)}{cs cs':List AV},iY place cs ps=some cs'→cs'.length=cs.length:=by
            intro place ps;induction ps with
            |nil=>intro cs cs' h;simp[iY] at h;simp[h]
            |cons p ps ih=>
              obtain⟨i,a⟩:=p;intro cs cs' h;unfold iY at h;split at h
              · cases h
              · split at h
                · cases h
                · rw[ih h,pr]
          rw[this h1];simp[nG]
        obtain⟨hle,hS⟩:=hs.QS vs vs.toArray e (fun j u hj=>by simpa using hj);refine⟨_,.slice (some ⟨w.heap.size,0,none⟩) len len,_,?_,hle,hS,?_⟩
        · simp only[Instr.buildSlice,Sem.run_bind,run_underlying hu,Result.andThen_ok,aS c1];rw[if_neg (by omega)];by_cases h0:len*P.cellsOf e=0
          · have kF:(Array.range (len*P.cellsOf e)).map (fun i=>(#[]:Array Value)[i%(#[]:Array Value).size]!)=((List.range (len*P.cellsOf e)).map fun i=>v.cells.toList.toArray[i%v.cells.toList.toArray.size]!).toArray:=by
              rw[h0];simp
            rw[if_pos h0];simp only[Sem.run_bind,Sem.run_pure,Result.andThen_ok,kF,h2];simp[newRow]
          · have kF:(Array.range (len*P.cellsOf e)).map (fun i=>v.cells[i%v.cells.size]!)=((List.range (len*P.cellsOf e)).map fun i=>v.cells.toList.toArray[i%v.cells.toList.toArray.size]!).toArray:=by
              apply Array.ext';simp
            rw[if_neg h0];simp only[Sem.run_bind,hv,Sem.run_pure,Result.andThen_ok,kF,h2];simp[newRow]
        · simp only[av];exact .inl ⟨w.heap.size,0,len,vs,rfl,hlen,Nat.le_refl _,ar.mono hle _ _ h3,gz.added G w.heap.size 0 vs,rfl,hs.base⟩
    · cases h
  · cases h
end Go.AM
