/- An abstract machine for the model and the rules of its walk, each proved sound over the model; no condition. -/
import Derived.Orders
import Derived.Below
import Derived.Laws.Entries
import Derived.ChangeKeysEq
import Derived.Laws.StructEq
import Derived.Laws.Append
import Derived.Laws.BytesArg
import Derived.Laws.NewFold
import Derived.Laws.Build
set_option linter.unusedSimpArgs false
set_option linter.unusedVariables false
namespace Go.AM
open Go Go.RowKit
inductive Sp where
  |new
  |no
  |full
  |own (t e:Nat)
  |any
def Sp.isAny:Sp→Bool
  |.any=>true
  |.new=>false
  |.no=>false
  |.full=>false
  |.own _ _=>false
inductive AV where
  |v (x:Value)
  |sl (sz n:Nat) (cs:List AV) (sp:Sp)
  |dr (cs:List AV)
  |ptr (o off:Nat)
  |gR (o off sz n cap:Nat)
  |agg (cs:List AV)
  |eo (cs:List AV)
  |qx (f:FuncId) (cd:List AV)
structure Gh where
  ro:Nat→Nat→Option Value
  obj:Nat→Option Nat
  tok:Nat→Nat→Option (Nat×Nat×Nat)
  no:Nat
  nt:Nat
  B:Nat
  w0:World
  df:List Deferred
structure Gh.le(G G':Gh):Prop where
  ro:∀b j u,G.ro b j=some u→G'.ro b j=some u
  obj:∀o b,G.obj o=some b→G'.obj o=some b
  tok:∀t e r,G.tok t e=some r→G'.tok t e=some r
  B:G'.B=G.B
  w0:G'.w0=G.w0
  df:G'.df=G.df
theorem Gh.le.refl(G:Gh):G.le G:=⟨fun _ _ _ h=>h,fun _ _ h=>h,fun _ _ _ h=>h,rfl,rfl,rfl⟩
theorem Gh.le.trans{a b c:Gh}(h:a.le b)(k:b.le c):a.le c:=
  ⟨fun _ _ _ x=>k.ro _ _ _ (h.ro _ _ _ x),fun _ _ x=>k.obj _ _ (h.obj _ _ x),fun _ _ _ x=>k.tok _ _ _ (h.tok _ _ _ x),k.B.trans h.B,k.w0.trans h.w0,k.df.trans h.df⟩
def gp(G:Gh)(b off:Nat)(vs:List Value):Prop:=∀j u,vs[j]? =some u→G.ro b (off+j)=some u
def ep(G:Gh)(b off sz n cap:Nat):Sp→Prop
  |.no=>True
  |.any=>True
  |.full=>cap=n
  |.new=>cap=n∧G.B≤b
  |.own t e=>G.tok t e=some (b,off+n*sz,off+cap*sz)
mutual
def av(G:Gh):AV→Value→Prop
  |.v x,y=>y=x
  |.sl sz n cs sp,y=>(∃b off cap vs,y=.slice (some ⟨b,off,none⟩) n cap∧cs.length=n*sz∧n≤cap∧au G cs vs∧gp G b off vs∧ep G b off sz n cap sp)∨
      (n=0∧cs=[]∧∃a cap,y=.slice (some a) 0 cap∧(sp=.no∨sp=.any∨(sp=.full∧cap=0)))∨
      (n=0∧cs=[]∧sp=.any∧y=.slice none 0 0)
  |.dr cs,y=>∃b off vs,y=.pointer (some ⟨b,off,none⟩)∧au G cs vs∧gp G b off vs
  |.ptr o off,y=>∃b,G.obj o=some b∧y=.pointer (some ⟨b,off,none⟩)
  |.gR o off _ n cap,y=>∃b,G.obj o=some b∧y=.slice (some ⟨b,off,none⟩) n cap∧n≤cap
  |.agg cs,y=>∃vs:List Value,y=.agg vs.toArray∧au G cs vs
  |.eo cs,y=>∃vs:List Value,y=.tuple vs.toArray∧au G cs vs
  |.qx f cd,y=>∃vs:List Value,y=.func (.func f) #[] vs.toArray∧au G cd vs
def au(G:Gh):List AV→List Value→Prop
  |[],vs=>vs=[]
  |c::cs,vs=>∃u us,vs=u::us∧av G c u∧au G cs us
end
theorem gp.mono{G G':Gh}(h:G.le G'){b off:Nat}{vs:List Value}(k:gp G b off vs):gp G' b off vs:=
  fun j u hj=>h.ro _ _ _ (k j u hj)
theorem ep.mono{G G':Gh}(h:G.le G'){b off sz n cap:Nat}{sp:Sp}(k:ep G b off sz n cap sp):ep G' b off sz n cap sp:=by
  cases sp with
  |no=>trivial
  |any=>trivial
  |full=>exact k
  |new=>exact⟨k.1,by rw[h.B];exact k.2⟩
  |own t e=>exact h.tok _ _ _ k
mutual
theorem av.mono{G G':Gh}(h:G.le G'):∀(c:AV)(u:Value),av G c u→av G' c u
  |.v x,u,k=>by simpa[av] using k
  |.sl sz n cs sp,u,k=>by
    simp only[av] at k⊢;rcases k with⟨b,off,cap,vs,h1,h2,h3,h4,h5,h6⟩|k
    · exact .inl ⟨b,off,cap,vs,h1,h2,h3,au.mono h cs vs h4,h5.mono h,h6.mono h⟩
    · exact .inr k
  |.dr cs,u,k=>by
    simp only[av] at k⊢;obtain⟨b,off,vs,h1,h4,h5⟩:=k;exact⟨b,off,vs,h1,au.mono h cs vs h4,h5.mono h⟩
  |.ptr o off,u,k=>by
    simp only[av] at k⊢;obtain⟨b,h1,h2⟩:=k;exact⟨b,h.obj _ _ h1,h2⟩
  |.gR o off sz n cap,u,k=>by
    simp only[av] at k⊢;obtain⟨b,h1,h2⟩:=k;exact⟨b,h.obj _ _ h1,h2⟩
  |.agg cs,u,k=>by
    simp only[av] at k⊢;obtain⟨vs,h1,h2⟩:=k;exact⟨vs,h1,au.mono h cs vs h2⟩
  |.eo cs,u,k=>by
    simp only[av] at k⊢;obtain⟨vs,h1,h2⟩:=k;exact⟨vs,h1,au.mono h cs vs h2⟩
  |.qx f cs,u,k=>by
    simp only[av] at k⊢;obtain⟨vs,h1,h2⟩:=k;exact⟨vs,h1,au.mono h cs vs h2⟩
theorem au.mono{G G':Gh}(h:G.le G'):∀(cs:List AV)(us:List Value),au G cs us→au G' cs us
  |[],us,k=>by simpa[au] using k
  |c::cs,us,k=>by
    simp only[au] at k⊢;obtain⟨u,v8,h1,h2,h3⟩:=k;exact⟨u,v8,h1,av.mono h c u h2,au.mono h cs v8 h3⟩
end
theorem au.length{G:Gh}:∀{cs:List AV}{vs:List Value},au G cs vs→cs.length=vs.length
  |[],vs,k=>by simp only[au] at k;simp[k]
  |c::cs,vs,k=>by
    simp only[au] at k;obtain⟨u,v8,rfl,h2,h3⟩:=k;simp[au.length h3]
theorem au.get{G:Gh}:∀{cs:List AV}{vs:List Value},au G cs vs→∀(i:Nat)(c:AV),cs[i]? =some c→∃u,vs[i]? =some u∧av G c u
  |[],vs,k=>by simp
  |c::cs,vs,k=>by
    simp only[au] at k;obtain⟨u,v8,rfl,h2,h3⟩:=k;intro i c' hi;cases i with
    |zero=>simp at hi;subst hi;exact⟨u,by simp,h2⟩
    |succ i=>simpa using au.get h3 i c' (by simpa using hi)
theorem au.getD{G:Gh}{cs:List AV}{vs:List Value}(h:au G cs vs)(i:Nat)(hi:i<cs.length):∃u,vs[i]? =some u∧av G (cs.getD i (.v undef)) u:=by
  obtain⟨u,h1,h2⟩:=h.get i (cs[i]) (by simp[hi]);exact⟨u,h1,by simpa[List.getD,hi] using h2⟩
theorem au.append{G:Gh}:∀{cs ds:List AV}{vs us:List Value},au G cs vs→au G ds us→au G (cs++ds) (vs++us)
  |[],ds,vs,us,h,k=>by simp only[au] at h;subst h;simpa using k
  |c::cs,ds,vs,us,h,k=>by
    simp only[au] at h;obtain⟨u,v8,rfl,h2,h3⟩:=h;simp only[List.cons_append,au];exact⟨u,v8++us,rfl,h2,au.append h3 k⟩
theorem au.take{G:Gh}:∀{cs:List AV}{vs:List Value}(n:Nat),au G cs vs→au G (cs.take n) (vs.take n)
  |[],vs,n,h=>by simp only[au] at h;subst h;simp[au]
  |c::cs,vs,n,h=>by
    simp only[au] at h;obtain⟨u,v8,rfl,h2,h3⟩:=h;cases n with
    |zero=>simp[au]
    |succ n=>simp only[List.take_succ_cons,au];exact⟨u,_,rfl,h2,au.take n h3⟩
theorem au.drop{G:Gh}:∀{cs:List AV}{vs:List Value}(n:Nat),au G cs vs→au G (cs.drop n) (vs.drop n)
  |[],vs,n,h=>by simp only[au] at h;subst h;simp[au]
  |c::cs,vs,n,h=>by
    cases n with
    |zero=>simpa using h
    |succ n=>
      simp only[au] at h;obtain⟨u,v8,rfl,h2,h3⟩:=h;simpa using au.drop n h3
theorem au.set{G:Gh}:∀{cs:List AV}{vs:List Value}(n:Nat){c:AV}{u:Value},au G cs vs→av G c u→au G (cs.set n c) (vs.set n u)
  |[],vs,n,c,u,h,k=>by simp only[au] at h;subst h;simp[au]
  |x::cs,vs,n,c,u,h,k=>by
    simp only[au] at h;obtain⟨y,v8,rfl,h2,h3⟩:=h;cases n with
    |zero=>simp only[List.set_cons_zero,au];exact⟨u,v8,rfl,k,h3⟩
    |succ n=>simp only[List.set_cons_succ,au];exact⟨y,_,rfl,h2,au.set n h3 k⟩
theorem au.Dk{G:Gh}:∀(l:List Value),au G (l.map .v) l
  |[]=>by simp[au]
  |x::l=>by simp only[List.map_cons,au];exact⟨x,l,rfl,by simp[av],au.Dk l⟩
structure AS where
  aw:Nat→Option (List AV)
  own:Nat→Option Nat
def aH{α:Type}(f:Nat→α)(d:Nat)(x:α)(i:Nat):α:=if i=d then x else f i
@[simp] theorem bf{α:Type}(f:Nat→α)(d:Nat)(x:α):aH f d x d=x:=by simp[aH]
theorem gS{α:Type}(f:Nat→α){d i:Nat}(x:α)(h:i≠d):aH f d x i=f i:=by simp[aH,h]
def AS.set(s:AS)(o:Nat)(cs:List AV):AS:={s with aw:=aH s.aw o (some cs)}
def AS.drop(s:AS)(o:Nat):AS:={s with aw:=aH s.aw o none}
def AS.bw(s:AS)(t e:Nat):AS:={s with own:=aH s.own t (some e)}
structure AS.le(s s':AS):Prop where
  aw:∀o cs,s.aw o=some cs→s'.aw o=some cs
  own:∀t e,s.own t=some e→s'.own t=some e
def dm(W W':World):Prop:=∀(k:Nat)(o:Obj),W.heap[k]? =some o→(∀c T f,o≠.cells c T f)→W'.heap[k]? =some o
theorem dm.refl(W:World):dm W W:=fun _ _ h _=>h
theorem dm.trans{A B C:World}(h:dm A B)(k:dm B C):dm A C:=fun i o hi ho=>k i o (h i o hi ho) ho
theorem dm.alloc(W:World)(x:Obj):dm W (W.alloc x):=by
  intro k o hk _;have bJ:k<W.heap.size:=(Array.getElem?_eq_some_iff.1 hk).1;simp only[World.alloc,Array.getElem?_push,if_neg (Nat.ne_of_lt bJ)];exact hk
theorem dm.setCell(W:World)(a:Addr)(v:Value):dm W (W.setCell a v):=by
  intro k o hk ho;simp only[World.setCell,Array.getElem?_modify,hk];split
  · cases o with
    |cells c T f=>exact absurd rfl (ho c T f)
    |_=>rfl
  · rfl
theorem dm.freeze(W:World)(a:Addr)(n:Nat):dm W (W.freeze a n):=by
  unfold World.freeze;split
  · exact dm.refl W
  · intro k o hk ho;simp only[Array.getElem?_modify,hk];split
    · cases o with
      |cells c T f=>exact absurd rfl (ho c T f)
      |_=>rfl
    · rfl
theorem Hn(w:World)(o:Obj):(w.alloc o).heap[w.heap.size]? =some o:=by show(w.heap.push o)[w.heap.size]? =some o;simp
def Kn(G:Gh)(s:AS)(b:Nat):Prop:=(∃o,G.obj o=some b)∨∃t e r,s.own t=some e∧G.tok t e=some (b,r)
def Iq(K:Nat→Prop)(w:World):Prop:=∀b c T lo hi,K b→w.heap[b]? =some (.cells c T (lo,hi))→lo=hi∨c.size≤lo
theorem Kn.mono{G:Gh}{s s':AS}{b:Nat}(k:s.le s'):Kn G s b→Kn G s' b
  |.inl h=>.inl h
  |.inr ⟨t,e,r,h1,h2⟩=>.inr ⟨t,e,r,k.own t e h1,h2⟩
variable(Γ:Nat→List AV)
structure aP(G:Gh)(s:AS)(w:World):Prop where
  ro:∀b j u,G.ro b j=some u→w.cell? ⟨b,j,none⟩=some u
  aw:∀o cs,s.aw o=some cs→∃b vs,G.obj o=some b∧au G cs vs∧G.B≤b∧(∀j u,vs[j]? =some u→w.cell? ⟨b,j,none⟩=some u∧w.frozen? ⟨b,j,none⟩=false∧G.ro b j=none)
  cV:∀o b,G.obj o=some b→b<w.heap.size
  inj:∀o o' b,G.obj o=some b→G.obj o'=some b→o=o'
  own:∀t e,s.own t=some e→∃b st en,G.tok t e=some (b,st,en)∧st≤en∧G.B≤b∧(∀j,st≤j→j<en→(∃u,w.cell? ⟨b,j,none⟩=some u)∧w.frozen? ⟨b,j,none⟩=false∧G.ro b j=none)∧(∀o,G.obj o≠some b)∧b<w.heap.size
  cF:∀t e t' e' b st en wU wW,s.own t=some e→s.own t'=some e'→G.tok t e=some (b,st,en)→G.tok t' e'=some (b,wU,wW)→t=t'
  bS:∀t e,s.own t=some e→∀e',e<e'→G.tok t e'=none
  cv:∀o,G.no≤o→G.obj o=none
  b7:∀t,G.nt≤t→∀e,G.tok t e=none
  below:Below G.B G.w0 w
  others:dm G.w0 w
  base:G.B≤w.heap.size
  gN:∀g,∃vs,au G (Γ g) vs∧gp G g 0 vs
  soft:Iq (Kn G s) w
variable{Γ}
theorem aP.mono{G:Gh}{s s':AS}{w:World}(h:aP Γ G s' w)(k:s.le s'):aP Γ G s w:=
  ⟨h.ro,fun o cs hc=>h.aw o cs (k.aw o cs hc),h.cV,h.inj,fun t e he=>h.own t e (k.own t e he),
   fun t e t' e' b st en wU wW h1 h2=>h.cF t e t' e' b st en wU wW (k.own t e h1) (k.own t' e' h2),
   fun t e he=>h.bS t e (k.own t e he),h.cv,h.b7,h.below,h.others,h.base,h.gN,fun b c T lo hi hb=>h.soft b c T lo hi (hb.mono k)⟩
theorem aP.xa1{G:Gh}{s:AS}{w:World}(h:aP Γ G s w){b:Nat}(hb:Kn G s b):b<w.heap.size:=by
  rcases hb with⟨o,ho⟩|⟨t,e,r,h1,h2⟩
  · exact h.cV o b ho
  · obtain⟨b',st,en,k1,_,_,_,_,k6⟩:=h.own t e h1;rw[h2] at k1;cases k1;exact k6
theorem aP.FI{G:Gh}{s:AS}{w:World}(h:aP Γ G s w){o:Nat}(ho:G.no≤o):s.aw o=none:=by
  cases hs:s.aw o with
  |none=>rfl
  |some cs=>obtain⟨b,vs,h1,_⟩:=h.aw o cs hs;rw[h.cv o ho] at h1;cases h1
theorem aP.gG{G:Gh}{s:AS}{w:World}(h:aP Γ G s w){t:Nat}(ht:G.nt≤t):s.own t=none:=by
  cases hs:s.own t with
  |none=>rfl
  |some e=>obtain⟨b,st,en,h1,_⟩:=h.own t e hs;rw[h.b7 t ht] at h1;cases h1
theorem aP.drew{G:Gh}{s:AS}{w:World}(h:aP Γ G s w):aP Γ G s w.drew:=
  ⟨h.ro,h.aw,h.cV,h.inj,h.own,h.cF,h.bS,h.cv,h.b7,h.below.drew,h.others,h.base,h.gN,h.soft⟩
theorem rk{w:World}{o:Obj}{b j:Nat}{u:Value}(h:w.cell? ⟨b,j,none⟩=some u):(w.alloc o).cell? ⟨b,j,none⟩=some u:=by
  rw[World.cell?_alloc_lt w o ⟨b,j,none⟩ (World.block_lt_of_cell? w _ h),h]
theorem sr{w:World}{o:Obj}{b j:Nat}(hb:b<w.heap.size):(w.alloc o).frozen? ⟨b,j,none⟩=w.frozen? ⟨b,j,none⟩:=
  World.frozen?_alloc_old w o ⟨b,j,none⟩ (Nat.ne_of_lt hb)
theorem aP.alloc{G:Gh}{s:AS}{w:World}(h:aP Γ G s w)(x:Obj)(hx:∀c T lo hi,x=.cells c T (lo,hi)→lo=hi∨c.size≤lo:=by intro c T lo hi e;cases e;exact .inl rfl):aP Γ G s (w.alloc x) where
  ro b j u hu:=rk (h.ro b j u hu)
  aw o cs hc:=by
    obtain⟨b,vs,h1,h2,h3,h4⟩:=h.aw o cs hc;exact⟨b,vs,h1,h2,h3,fun j u hu=>⟨rk (h4 j u hu).1,by rw[sr (h.cV o b h1)];exact(h4 j u hu).2.1,(h4 j u hu).2.2⟩⟩
  cV o b hb:=by have:=h.cV o b hb;simp;omega
  inj:=h.inj;own t e he:=by
    obtain⟨b,st,en,h1,h2,h3,h4,h5,h6⟩:=h.own t e he;refine⟨b,st,en,h1,h2,h3,fun j hj kJ=>?_,h5,by simp;omega⟩;obtain⟨⟨u,hu⟩,h7,h8⟩:=h4 j hj kJ;exact⟨⟨u,rk hu⟩,by rw[sr h6];exact h7,h8⟩
  cF:=h.cF;bS:=h.bS;cv:=h.cv;b7:=h.b7;below:=h.below.alloc h.base _;others:=h.others.trans (dm.alloc _ _);base:=by have:=h.base;simp;omega
  gN:=h.gN;soft b c T lo hi hb hc:=by
    simp only[World.alloc,Array.getElem?_push] at hc;split at hc
    · cases hc;exact hx _ _ _ _ rfl
    · exact h.soft b c T lo hi hb hc
def Gh.eC(G:Gh)(o b:Nat):Gh:={G with obj:=aH G.obj o (some b),no:=max G.no (o+1)}
theorem Gh.Ir{G:Gh}{o:Nat}(b:Nat)(ho:G.obj o=none):G.le (G.eC o b):=
  ⟨fun _ _ _ h=>h,fun o' b' h=>by
    by_cases e:o'=o
    · subst e;rw[ho] at h;cases h
    · simpa[Gh.eC,aH,e] using h,fun _ _ _ h=>h,rfl,rfl,rfl⟩
theorem aP.newObj{G:Gh}{s:AS}{w:World}(h:aP Γ G s w){cs:List AV}{vs:List Value}(hv:au G cs vs)(T:TypeId):
    ∃o,s.aw o=none∧G.le (G.eC o w.heap.size)∧aP Γ (G.eC o w.heap.size) (s.set o cs) (w.alloc (.cells vs.toArray T))∧(G.eC o w.heap.size).obj o=some w.heap.size:=by
  have ho:G.obj G.no=none:=h.cv _ (Nat.le_refl _);have hle:=Gh.Ir w.heap.size ho;refine⟨G.no,h.FI (Nat.le_refl _),hle,?_,by simp[Gh.eC]⟩;have h':=h.alloc (.cells vs.toArray T);constructor;case ro=>exact h'.ro
  case aw=>
    intro o cs' hc;by_cases e:o=G.no
    · subst e;simp[AS.set] at hc;subst hc;refine⟨w.heap.size,vs,by simp[Gh.eC],au.mono hle _ _ hv,h.base,fun j u hu=>⟨by simpa using hu,World.frozen?_alloc_new ..,?_⟩⟩;cases hr:(G.eC G.no w.heap.size).ro w.heap.size j with
      |none=>rfl
      |some x=>exact absurd (World.block_lt_of_cell? w _ (h.ro _ _ _ hr)) (Nat.lt_irrefl _)
    · simp[AS.set,aH,e] at hc;obtain⟨b,us,h1,h2,h3,h4⟩:=h'.aw o cs' hc;exact⟨b,us,hle.obj _ _ h1,au.mono hle _ _ h2,h3,h4⟩
  case cV=>
    intro o b hb;by_cases e:o=G.no
    · subst e;simp[Gh.eC] at hb;subst hb;simp
    · simp[Gh.eC,aH,e] at hb;exact h'.cV o b hb
  case inj=>
    intro o o' b h1 h2;by_cases e:o=G.no<;>by_cases e':o'=G.no
    · rw[e,e']
    · subst e;simp[Gh.eC,aH,e'] at h1 h2;subst h1;exact absurd (h.cV _ _ h2) (Nat.lt_irrefl _)
    · subst e';simp[Gh.eC,aH,e] at h1 h2;subst h2;exact absurd (h.cV _ _ h1) (Nat.lt_irrefl _)
    · simp[Gh.eC,aH,e,e'] at h1 h2;exact h.inj o o' b h1 h2
  case own=>
    intro t e he;obtain⟨b,st,en,h1,h2,h3,h4,h5,h6⟩:=h'.own t e he;obtain⟨b1,Ux,Uy,k1,_,_,_,_,k6⟩:=h.own t e he;refine⟨b,st,en,h1,h2,h3,h4,fun o ss=>?_,h6⟩;by_cases e':o=G.no
    · subst e';simp[Gh.eC] at ss;rw[h1] at k1;simp at k1;omega
    · simp[Gh.eC,aH,e'] at ss;exact h5 o ss
  case cF=>exact h'.cF
  case bS=>exact h'.bS
  case cv=>
    intro o ss;simp[Gh.eC] at ss;have :o≠G.no:=(by omega);simp[Gh.eC,aH,this];exact h.cv o (by omega)
  case b7=>exact h'.b7
  case below=>exact h'.below
  case others=>exact h'.others
  case base=>exact h'.base
  case soft=>
    rintro b c T' lo hi hb hc;rcases hb with⟨o',ss⟩|⟨t,e,r,h1,h2⟩
    · by_cases e:o'=G.no
      · subst e;simp only[Gh.eC,bf,Option.some.injEq] at ss;subst ss;rw[Hn] at hc;cases hc;exact .inl rfl
      · exact h'.soft b c T' lo hi (.inl ⟨o',by simpa[Gh.eC,aH,e] using ss⟩) hc
    · exact h'.soft b c T' lo hi (.inr ⟨t,e,r,h1,h2⟩) hc
  case gN=>
    intro g;obtain⟨us,h1,h2⟩:=h.gN g;exact⟨us,au.mono hle _ _ h1,h2.mono hle⟩
def Gh.eI(G:Gh)(b off:Nat)(vs:List Value):Gh:=
  {G with ro:=fun b' j=>if b'=b∧off≤j∧j<off+vs.length then vs[j-off]? else G.ro b' j}
theorem Gh.xi{G:Gh}{b off:Nat}{vs:List Value}(h:∀j,off≤j→j<off+vs.length→G.ro b j=none):G.le (G.eI b off vs):=by
  refine⟨fun b' j u hu=>?_,fun _ _ h=>h,fun _ _ _ h=>h,rfl,rfl,rfl⟩;simp only[Gh.eI];split
  · rename_i hc;obtain⟨rfl,h1,h2⟩:=hc;rw[h j h1 h2] at hu;cases hu
  · exact hu
theorem gp.added(G:Gh)(b off:Nat)(vs:List Value):gp (G.eI b off vs) b off vs:=by
  intro j u hu;have hj:j<vs.length:=by
    rcases Nat.lt_or_ge j vs.length with h|h
    · exact h
    · simp[List.getElem?_eq_none h] at hu
  simp only[Gh.eI];rw[if_pos ⟨trivial,by omega,by omega⟩];simpa using hu
theorem rl{G:Gh}{s:AS}{w:World}(h:aP Γ G s w)(j:Nat):G.ro w.heap.size j=none:=by
  cases hr:G.ro w.heap.size j with
  |none=>rfl
  |some x=>exact absurd (World.block_lt_of_cell? w _ (h.ro _ _ _ hr)) (Nat.lt_irrefl _)
theorem aP.Qi{G:Gh}{s:AS}{w:World}(h:aP Γ G s w)(vs:List Value)(c:Array Value)(T:TypeId)(hc:∀(j:Nat)(u:Value),vs[j]? =some u→c[j]? =some u):
    G.le (G.eI w.heap.size 0 vs)∧aP Γ (G.eI w.heap.size 0 vs) s (w.alloc (.cells c T)):=by
  have hle:G.le (G.eI w.heap.size 0 vs):=Gh.xi fun j _ _=>rl h j;refine⟨hle,?_⟩;have h':=h.alloc (.cells c T);have qe:∀b j,b≠w.heap.size→(G.eI w.heap.size 0 vs).ro b j=G.ro b j:=(fun b j hb=>by simp[Gh.eI,hb]);constructor;case ro=>
    intro b j u hu;by_cases e:b=w.heap.size
    · subst e;simp only[Gh.eI] at hu;split at hu
      · rename_i hj;rw[World.cell?_alloc_new];exact hc j u (by simpa using hu)
      · rw[rl h j] at hu;cases hu
    · rw[qe b j e] at hu;exact h'.ro b j u hu
  case aw=>
    intro o cs ho;obtain⟨b,us,h1,h2,h3,h4⟩:=h'.aw o cs ho;refine⟨b,us,h1,au.mono hle _ _ h2,h3,fun j u hu=>⟨(h4 j u hu).1,(h4 j u hu).2.1,?_⟩⟩;rw[qe b j (Nat.ne_of_lt (h.cV o b h1))];exact(h4 j u hu).2.2
  case cV=>exact h'.cV
  case inj=>exact h'.inj
  case own=>
    intro t e he;obtain⟨b,st,en,h1,h2,h3,h4,h5,h6⟩:=h'.own t e he;obtain⟨b1,Ux,Uy,k1,_,_,_,_,k6⟩:=h.own t e he;rw[h1] at k1;simp at k1;refine⟨b,st,en,h1,h2,h3,fun j hj kJ=>⟨(h4 j hj kJ).1,(h4 j hj kJ).2.1,?_⟩,h5,h6⟩;rw[qe b j (by omega)];exact(h4 j hj kJ).2.2
  case cF=>exact h'.cF
  case bS=>exact h'.bS
  case cv=>exact h'.cv
  case b7=>exact h'.b7
  case below=>exact h'.below
  case others=>exact h'.others
  case base=>exact h'.base
  case soft=>exact h'.soft
  case gN=>
    intro g;obtain⟨us,h1,h2⟩:=h.gN g;exact⟨us,au.mono hle _ _ h1,h2.mono hle⟩
theorem su{K:Nat→Prop}{w:World}(h:Iq K w){a:Addr}{u:Value}:
    ∀b c T lo hi,K b→(w.setCell a u).heap[b]? =some (.cells c T (lo,hi))→lo=hi∨c.size≤lo:=by
  intro b c T lo hi hb hc;simp only[World.setCell,Array.getElem?_modify] at hc;split at hc
  · cases hh:w.heap[b]? with
    |none=>simp[hh] at hc
    |some o=>
      simp only[hh,Option.map_some,Option.some.injEq] at hc;cases o with
      |cells c' T' fr=>
        obtain⟨RD,aY⟩:=fr;simp only[Obj.cells.injEq,Prod.mk.injEq] at hc;obtain⟨h1,rfl,rfl,rfl⟩:=hc;have:=h b c' T' RD aY hb hh;have hs:c.size=c'.size:=by
          rw[←h1];split <;>simp
        omega
      |_=>cases hc
  · exact h b c T lo hi hb hc
theorem aP.setCell{G:Gh}{s:AS}{w:World}(h:aP Γ G s w){o b i:Nat}{cs:List AV}{c:AV}{u:Value}(ho:s.aw o=some cs)(hb:G.obj o=some b)(hi:i<cs.length)(hc:av G c u):
    (∃u0,w.cell? ⟨b,i,none⟩=some u0)∧w.frozen? ⟨b,i,none⟩=false∧aP Γ G (s.set o (cs.set i c)) (w.setCell ⟨b,i,none⟩ u):=by
  obtain⟨b',vs,h1,h2,h3,h4⟩:=h.aw o cs ho;rw[hb] at h1;cases h1;have hl:=h2.length;have hiv:vs[i]? =some vs[i]:=(by simp);obtain⟨wX,zx,hc3⟩:=h4 i _ hiv;refine⟨⟨_,wX⟩,zx,?_⟩;have dK:∀(b' j':Nat),(b'≠b∨j'≠i)→(w.setCell ⟨b,i,none⟩ u).cell? ⟨b',j',none⟩=w.cell? ⟨b',j',none⟩:=by
    intro b' j' hd;refine World.cell?_setCell_other _ _ _ _ ?_;intro e;simp at e;omega
  constructor;case ro=>
    intro b' j' u' NP;rw[dK]
    · exact h.ro b' j' u' NP
    · by_cases e:b'=b
      · subst e;right;intro e;subst e;rw[hc3] at NP;cases NP
      · exact .inl e
  case aw=>
    intro o' cs' Qj;by_cases e:o'=o
    · subst e;simp[AS.set] at Qj;subst Qj;refine⟨b,vs.set i u,hb,h2.set i hc,h3,fun j y hy=>?_⟩;by_cases e:j=i
      · subst e;rw[List.getElem?_set_self (by omega)] at hy;cases hy;exact⟨World.cell?_setCell_same _ _ _ wX,by simpa using zx,hc3⟩
      · rw[List.getElem?_set_ne (by omega)] at hy;rw[dK _ _ (.inr e)];obtain⟨k1,k2,k3⟩:=h4 j y hy;exact⟨k1,by simpa using k2,k3⟩
    · simp[AS.set,aH,e] at Qj;obtain⟨b',us,k1,k2,k3,k4⟩:=h.aw o' cs' Qj;refine⟨b',us,k1,k2,k3,fun j y hy=>?_⟩;have zu:b'≠b:=fun e'=>e (h.inj o' o b (e' ▸ k1) hb);rw[dK _ _ (.inl zu)];obtain⟨l1,l2,l3⟩:=k4 j y hy;exact⟨l1,by simpa using l2,l3⟩
  case cV=>intro o b hb;simpa using h.cV o b hb
  case inj=>exact h.inj
  case own=>
    intro t e he;obtain⟨b',st,en,k1,k2,k3,k4,k5,k6⟩:=h.own t e he;refine⟨b',st,en,k1,k2,k3,fun j hj kJ=>?_,k5,by simpa using k6⟩;have zu:b'≠b:=fun e'=>k5 o (e' ▸ hb);rw[dK _ _ (.inl zu)];obtain⟨l1,l2,l3⟩:=k4 j hj kJ;exact⟨l1,by simpa using l2,l3⟩
  case cF=>exact h.cF
  case bS=>exact h.bS
  case cv=>exact h.cv
  case b7=>exact h.b7
  case below=>exact h.below.setCell h3 _
  case others=>exact h.others.trans (dm.setCell _ _ _)
  case base=>simpa using h.base
  case soft=>exact su h.soft
  case gN=>exact h.gN
theorem aP.freeze{G:Gh}{s:AS}{w:World}(h:aP Γ G s w){o:Nat}{cs:List AV}(ho:s.aw o=some cs):
    ∃b vs,G.obj o=some b∧au G cs vs∧G.le (G.eI b 0 vs)∧gp (G.eI b 0 vs) b 0 vs∧aP Γ (G.eI b 0 vs) (s.drop o) w:=by
  obtain⟨b,vs,h1,h2,h3,h4⟩:=h.aw o cs ho;have hle:G.le (G.eI b 0 vs):=Gh.xi fun j _ hj=>by
    have hj:j<vs.length:=(by omega);exact(h4 j vs[j] (by simp)).2.2
  have qe:∀b' j,b'≠b→(G.eI b 0 vs).ro b' j=G.ro b' j:=(fun b' j hb=>by simp[Gh.eI,hb]);refine⟨b,vs,h1,h2,hle,gp.added G b 0 vs,?_⟩;constructor;case ro=>
    intro b' j u hu;by_cases e:b'=b
    · subst e;simp only[Gh.eI] at hu;split at hu
      · exact(h4 j u (by simpa using hu)).1
      · exact h.ro _ j u hu
    · rw[qe b' j e] at hu;exact h.ro b' j u hu
  case aw=>
    intro o' cs' ss;by_cases e:o'=o
    · subst e;simp[AS.drop] at ss
    · simp[AS.drop,aH,e] at ss;obtain⟨b',us,k1,k2,k3,k4⟩:=h.aw o' cs' ss;have zu:b'≠b:=fun e'=>e (h.inj o' o b (e' ▸ k1) h1);refine⟨b',us,k1,au.mono hle _ _ k2,k3,fun j u hu=>⟨(k4 j u hu).1,(k4 j u hu).2.1,?_⟩⟩;rw[qe b' j zu];exact(k4 j u hu).2.2
  case cV=>exact h.cV
  case inj=>exact h.inj
  case own=>
    intro t e he;obtain⟨b',st,en,k1,k2,k3,k4,k5,k6⟩:=h.own t e he;have zu:b'≠b:=fun e'=>k5 o (e' ▸ h1);refine⟨b',st,en,k1,k2,k3,fun j hj kJ=>⟨(k4 j hj kJ).1,(k4 j hj kJ).2.1,?_⟩,k5,k6⟩;rw[qe b' j zu];exact(k4 j hj kJ).2.2
  case cF=>exact h.cF
  case bS=>exact h.bS
  case cv=>exact h.cv
  case b7=>exact h.b7
  case below=>exact h.below
  case others=>exact h.others
  case base=>exact h.base
  case soft=>exact h.soft
  case gN=>
    intro g;obtain⟨us,h1,h2⟩:=h.gN g;exact⟨us,au.mono hle _ _ h1,h2.mono hle⟩
def Gh.gT(G:Gh)(t e:Nat)(r:Nat×Nat×Nat):Gh:=
  {G with tok:=fun t' e'=>if t'=t∧e'=e then some r else G.tok t' e',nt:=max G.nt (t+1)}
theorem Gh.Is{G:Gh}{t e:Nat}(r:Nat×Nat×Nat)(h:G.tok t e=none):G.le (G.gT t e r):=by
  refine⟨fun _ _ _ h=>h,fun _ _ h=>h,fun t' e' r' hr=>?_,rfl,rfl,rfl⟩;simp only[Gh.gT];split
  · rename_i hc;obtain⟨rfl,rfl⟩:=hc;rw[h] at hr;cases hr
  · exact hr
theorem aP.bw{G:Gh}{s:AS}{w:World}(h:aP Γ G s w){t e b st en:Nat}(hn:G.tok t e=none)(hl:∀e',e<e'→G.tok t e'=none)
    (h1:st≤en) (h2:G.B≤b) (h3:∀j,st≤j→j<en→(∃u,w.cell? ⟨b,j,none⟩=some u)∧w.frozen? ⟨b,j,none⟩=false∧G.ro b j=none) (h4:∀o,G.obj o≠some b) (h5:b<w.heap.size)
    (h6:∀t' e' wU wW,t'≠t→s.own t'=some e'→G.tok t' e'≠some (b,wU,wW)) (h7:∀c T lo hi,w.heap[b]? =some (.cells c T (lo,hi))→lo=hi∨c.size≤lo):
    G.le (G.gT t e (b,st,en))∧aP Γ (G.gT t e (b,st,en)) (s.bw t e) w:=by
  have hle:=Gh.Is (b,st,en) hn;refine⟨hle,?_⟩;have mO:∀t' e',t'≠t→(G.gT t e (b,st,en)).tok t' e'=G.tok t' e':=(fun t' e' dK=>by simp[Gh.gT,dK]);constructor;case ro=>exact h.ro
  case aw=>
    intro o cs ho;obtain⟨b',us,k1,k2,k3,k4⟩:=h.aw o cs ho;exact⟨b',us,k1,au.mono hle _ _ k2,k3,k4⟩
  case cV=>exact h.cV
  case inj=>exact h.inj
  case own=>
    intro t' e' he;by_cases ht:t'=t
    · subst ht;simp[AS.bw] at he;subst he;exact⟨b,st,en,by simp[Gh.gT],h1,h2,h3,h4,h5⟩
    · simp[AS.bw,aH,ht] at he;obtain⟨b',wU,wW,k1,k2,k3,k4,k5,k6⟩:=h.own t' e' he;exact⟨b',wU,wW,by rw[mO _ _ ht];exact k1,k2,k3,k4,k5,k6⟩
  case cF=>
    intro t1 e1 t2 e2 b' Ux Uy Uz en2 o1 o2 k1 k2;by_cases c1:t1=t<;>by_cases c2:t2=t
    · rw[c1,c2]
    · subst c1;simp[AS.bw,aH,c2] at o1 o2;subst o1;rw[mO _ _ c2] at k2;simp[Gh.gT] at k1;obtain⟨rfl,rfl,rfl⟩:=k1;exact absurd k2 (h6 t2 e2 _ _ c2 o2)
    · subst c2;simp[AS.bw,aH,c1] at o1 o2;subst o2;rw[mO _ _ c1] at k1;simp[Gh.gT] at k2;obtain⟨rfl,rfl,rfl⟩:=k2;exact absurd k1 (h6 t1 e1 _ _ c1 o1)
    · simp[AS.bw,aH,c1,c2] at o1 o2;rw[mO _ _ c1] at k1;rw[mO _ _ c2] at k2;exact h.cF t1 e1 t2 e2 b' Ux Uy Uz en2 o1 o2 k1 k2
  case bS=>
    intro t' e' he e'' bJ;by_cases ht:t'=t
    · subst ht;simp[AS.bw] at he;subst he;have :e''≠e:=(by omega);simp[Gh.gT,this,hl e'' bJ]
    · simp[AS.bw,aH,ht] at he;rw[mO _ _ ht];exact h.bS t' e' he e'' bJ
  case cv=>exact h.cv
  case b7=>
    intro t' nF e';simp only[Gh.gT] at nF;rw[mO _ _ (by omega)];exact h.b7 t' (by omega) e'
  case below=>exact h.below
  case others=>exact h.others
  case base=>exact h.base
  case soft=>
    rintro b' c T' lo hi hb hc;rcases hb with⟨o',ss⟩|⟨t',e',r,q1,q2⟩
    · exact h.soft b' c T' lo hi (.inl ⟨o',ss⟩) hc
    · by_cases ht:t'=t
      · subst ht;simp[AS.bw] at q1;subst q1;simp[Gh.gT] at q2;exact h7 c T' lo hi (by rw[q2.1];exact hc)
      · simp[AS.bw,aH,ht] at q1;rw[mO _ _ ht] at q2;exact h.soft b' c T' lo hi (.inr ⟨t',e',r,q1,q2⟩) hc
  case gN=>
    intro g;obtain⟨us,h1,h2⟩:=h.gN g;exact⟨us,au.mono hle _ _ h1,h2.mono hle⟩
structure Gh.sub(G G':Gh):Prop where
  ro:G'.ro=G.ro
  obj:G'.obj=G.obj
  tok:G'.tok=G.tok
  B:G'.B=G.B
theorem gp.sub{G G':Gh}(h:G.sub G'){b off:Nat}{vs:List Value}(k:gp G b off vs):gp G' b off vs:=fun j u hj=>by rw[h.ro];exact k j u hj
theorem ep.sub{G G':Gh}(h:G.sub G'){b off sz n cap:Nat}{sp:Sp}(k:ep G b off sz n cap sp):ep G' b off sz n cap sp:=by
  cases sp with
  |no=>trivial
  |any=>trivial
  |full=>exact k
  |new=>exact⟨k.1,by rw[h.B];exact k.2⟩
  |own t e=>simp only[ep] at k⊢;rw[h.tok];exact k
mutual
theorem av.sub{G G':Gh}(h:G.sub G'):∀(c:AV)(u:Value),av G c u→av G' c u
  |.v x,u,k=>by simpa[av] using k
  |.sl sz n cs sp,u,k=>by
    simp only[av] at k⊢;rcases k with⟨b,off,cap,vs,h1,h2,h3,h4,h5,h6⟩|k
    · exact .inl ⟨b,off,cap,vs,h1,h2,h3,au.sub h cs vs h4,h5.sub h,h6.sub h⟩
    · exact .inr k
  |.dr cs,u,k=>by
    simp only[av] at k⊢;obtain⟨b,off,vs,h1,h4,h5⟩:=k;exact⟨b,off,vs,h1,au.sub h cs vs h4,h5.sub h⟩
  |.ptr o off,u,k=>by
    simp only[av] at k⊢;rw[h.obj];exact k
  |.gR o off sz n cap,u,k=>by
    simp only[av] at k⊢;rw[h.obj];exact k
  |.agg cs,u,k=>by
    simp only[av] at k⊢;obtain⟨vs,h1,h2⟩:=k;exact⟨vs,h1,au.sub h cs vs h2⟩
  |.eo cs,u,k=>by
    simp only[av] at k⊢;obtain⟨vs,h1,h2⟩:=k;exact⟨vs,h1,au.sub h cs vs h2⟩
  |.qx f cs,u,k=>by
    simp only[av] at k⊢;obtain⟨vs,h1,h2⟩:=k;exact⟨vs,h1,au.sub h cs vs h2⟩
theorem au.sub{G G':Gh}(h:G.sub G'):∀(cs:List AV)(us:List Value),au G cs us→au G' cs us
  |[],us,k=>by simpa[au] using k
  |c::cs,us,k=>by
    simp only[au] at k⊢;obtain⟨u,v8,h1,h2,h3⟩:=k;exact⟨u,v8,h1,av.sub h c u h2,au.sub h cs v8 h3⟩
end
theorem aP.sub{G G':Gh}(k:G.sub G'){s:AS}{w:World}(h:aP Γ G s w)(qC:G'.no=G.no)(hnt:G'.nt=G.nt)(hb:Below G.B G'.w0 w)(hk:dm G'.w0 w):aP Γ G' s w where
  ro:=by rw[k.ro];exact h.ro
  aw o cs ho:=by
    obtain⟨b,us,k1,k2,k3,k4⟩:=h.aw o cs ho;exact⟨b,us,by rw[k.obj];exact k1,au.sub k _ _ k2,by rw[k.B];exact k3,by rw[k.ro];exact k4⟩
  cV:=by rw[k.obj];exact h.cV
  inj:=by rw[k.obj];exact h.inj
  own:=by rw[k.tok,k.B,k.ro,k.obj];exact h.own
  cF:=by rw[k.tok];exact h.cF
  bS:=by rw[k.tok];exact h.bS
  cv:=by rw[k.obj,qC];exact h.cv
  b7:=by rw[k.tok,hnt];exact h.b7
  below:=by rw[k.B];exact hb
  others:=hk;base:=by rw[k.B];exact h.base
  soft b c T lo hi hb:=h.soft b c T lo hi (by simpa only[Kn,k.obj,k.tok] using hb);gN g:=by
    obtain⟨us,h1,h2⟩:=h.gN g;exact⟨us,au.sub k _ _ h1,h2.sub k⟩
def Gh.cI(G:Gh)(d:List Deferred):Gh:={G with df:=d}
theorem Gh.AB(G:Gh)(d:List Deferred):G.sub (G.cI d):=⟨rfl,rfl,rfl,rfl⟩
theorem av.cI{G:Gh}{d:List Deferred}(c:AV)(u:Value)(h:av G c u):av (G.cI d) c u:=av.sub (G.AB d) c u h
theorem aP.cI{G:Gh}{s:AS}{w:World}{d:List Deferred}(h:aP Γ G s w):aP Γ (G.cI d) s w:=h.sub (G.AB d) rfl rfl h.below h.others
theorem Gh.xj{G G':Gh}{d:List Deferred}(h:(G.cI d).le G'):G.le (G'.cI G.df):=
  ⟨h.ro,h.obj,h.tok,h.B,h.w0,rfl⟩
def Gh.setW(G:Gh)(w:World):Gh:={G with w0:=w}
theorem Gh.gq(G:Gh)(w:World):G.sub (G.setW w):=⟨rfl,rfl,rfl,rfl⟩
theorem aP.setW{G:Gh}{s:AS}{w:World}(h:aP Γ G s w):aP Γ (G.setW w) s w:=h.sub (G.gq w) rfl rfl (Below.refl _ _) (dm.refl _)
theorem aP.sv{G G':Gh}{s s':AS}{w w':World}(h:aP Γ G s w)(hle:(G.setW w).le G')(h':aP Γ G' s' w'):aP Γ (G'.setW G.w0) s' w'∧G.le (G'.setW G.w0):=by
  have hw:G'.w0=w:=hle.w0;have hB:G'.B=G.B:=hle.B;refine⟨h'.sub (G'.gq _) rfl rfl ?_ ?_,⟨hle.ro,hle.obj,hle.tok,hle.B,rfl,hle.df⟩⟩
  · have:=h'.below;rw[hw,hB] at this;rw[hB];exact h.below.trans this
  · have:=h'.others;rw[hw] at this;exact h.others.trans this
end Go.AM
namespace Go.AM
open Go Go.RowKit
def ai(b:UInt8):AV:=.v (.int .u8 b.toNat)
def byteOf:AV→UInt8
  |.v (.int _ n)=>UInt8.ofNat n.toNat
  |_=>0
def isByte:AV→Bool
  |.v (.int .u8 _)=>true
  |_=>false
def mq(cs:List AV):ByteArray:=⟨(cs.map byteOf).toArray⟩
@[simp] theorem NQ(b:UInt8):byteOf (ai b)=b:=by simp[byteOf,ai]
@[simp] theorem NR(b:UInt8):isByte (ai b)=true:=rfl
@[simp] theorem jm(l:List UInt8):mq (l.map ai)=⟨l.toArray⟩:=by
  simp[mq,Function.comp_def]
@[simp] theorem gU(l:List UInt8):(l.map ai).all isByte=true:=by simp
def AV.cells:AV→List AV
  |.agg cs=>cs
  |.v (.agg c)=>c.toList.map .v
  |x=>[x]
def AV.one:AV→Bool
  |.agg _|.eo _|.v (.agg _)|.v (.tuple _)=>false
  |_=>true
@[simp] theorem TY(b:UInt8):(ai b).one=true:=rfl
def bO(P:Program)(t:TypeId):Option Bool:=
  match P.underlying t with
  |some (.struct _)|some (.array _ _)=>some true
  |some _=>some false
  |none=>none
def bX(P:Program)(t:TypeId)(i:Nat):Option (Nat×TypeId):=
  match P.underlying t with
  |some (.struct fs)=>(fs[i]?).map fun f=>(f.offset,f.type)
  |_=>none
def fh(P:Program)(t:TypeId):Bool:=
  match P.underlying t with
  |some (.struct fs)=>fs.all fun f=>(P.info? f.type).isSome
  |_=>false
def placeOf(P:Program)(t:TypeId)(i:Nat):Option (Nat×Nat):=
  match bX P t i with
  |some (o,u)=>some (o,P.cellsOf u)
  |none=>none
def bq(P:Program)(t:TypeId):Option (List AV):=
  ((P.info? t).bind (·.zero)).map fun z=>z.cells.toList.map .v
def oV(n:Nat)(z:List AV):List AV:=(List.range n).map fun i=>z.getD (i%z.length) (.v default)
theorem Dl(n:Nat)(x:AV):oV n [x]=List.replicate n x:=by
  apply List.ext_getElem
  · simp[oV]
  · intro i h1 h2;simp[oV,Nat.mod_one]
def apart(P:Program)(t:TypeId)(cs:List AV)(off:Nat):Option AV:=
  match bO P t with
  |some true=>some (.agg ((cs.drop off).take (P.cellsOf t)))
  |some false=>cs[off]?
  |none=>none
def bn(cells:List AV)(off:Nat):List AV→List AV
  |[]=>cells
  |x::xs=>bn (cells.set off x) (off+1) xs
def iM(place:Nat→Option (Nat×Nat))(cells:List AV):List (Nat×AV)→Option (List AV)
  |[]=>some cells
  |(i,v)::rest=>
    match place i with
    |none=>none
    |some (off,size)=>
      if v.cells.length≠size∨off+v.cells.length>cells.length then none
      else iM place (bn cells off v.cells) rest
def oA(P:Program)(t:TypeId)(cs:List AV):Option AV:=
  match bO P t with
  |some true=>if P.cellsOf t≤cs.length then some (.agg (cs.take (P.cellsOf t))) else none
  |some false=>cs[0]?
  |none=>none
def ec(k:IntKind)(a b:Int):Int:=k.wrap (a+b)
def di(k:IntKind)(a b:Int):Int:=k.wrap (a-b)
def gO(k:IntKind)(a b:Int):Int:=k.wrap (a*b)
def kK(k:IntKind)(a b:Int):Int:=k.wrap (a.tdiv b)
def iG(a b:Int):Int:=a.tmod b
def mg(k:IntKind)(a b:Int):Int:=k.wrap (BitVec.ofInt k.bits a &&& BitVec.ofInt k.bits b).toNat
def FJ(k:IntKind)(a b:Int):Int:=k.wrap (BitVec.ofInt k.bits a ||| BitVec.ofInt k.bits b).toNat
def Dm(k:IntKind)(a b:Int):Int:=k.wrap (BitVec.ofInt k.bits a ^^^ BitVec.ofInt k.bits b).toNat
def Ho(k:IntKind)(a b:Int):Int:=k.wrap (BitVec.ofInt k.bits a &&& ~~~ BitVec.ofInt k.bits b).toNat
def kj(k:IntKind)(a b:Int):Int:=k.wrap (a*2^(min b.toNat k.bits))
def eJ(k:IntKind)(a b:Int):Int:=a.fdiv (2^(min b.toNat k.bits))
def Dn(k:IntKind)(a:Int):Int:=k.wrap (0-a)
def J1(k:IntKind)(a:Int):Int:=k.wrap (BitVec.ofInt k.bits (if k.signed then -1 else k.max) ^^^ BitVec.ofInt k.bits a).toNat
def cG(k:IntKind)(a:Int):Int:=k.wrap a
def fi(op:BinOp)(k:IntKind)(a b:Int):Option AV:=
  match op with
  |.add=>some (.v (.int k (ec k a b)))
  |.sub=>some (.v (.int k (di k a b)))
  |.mul=>some (.v (.int k (gO k a b)))
  |.quo=>if b=0 then none else some (.v (.int k (kK k a b)))
  |.rem=>if b=0 then none else some (.v (.int k (iG a b)))
  |.and=>some (.v (.int k (mg k a b)))
  |.or=>some (.v (.int k (FJ k a b)))
  |.xor=>some (.v (.int k (Dm k a b)))
  |.andNot=>some (.v (.int k (Ho k a b)))
  |.eql=>some (.v (.bool (a==b)))
  |.neq=>some (.v (.bool (a != b)))
  |.lss=>some (.v (.bool (a<b)))
  |.leq=>some (.v (.bool (a≤b)))
  |.gtr=>some (.v (.bool (a>b)))
  |.geq=>some (.v (.bool (a≥b)))
  |_=>none
def ashift(op:BinOp)(k:IntKind)(a b:Int):Option AV:=
  if b<0 then none else
  match op with
  |.shl=>some (.v (.int k (kj k a b)))
  |.shr=>some (.v (.int k (eJ k a b)))
  |_=>none
def xk(op:BinOp)(x y:ByteArray):Option AV:=
  match op with
  |.add=>if((x.size+y.size:Nat):Int)>IntKind.i64.max then none else some (.v (.string (x++y)))
  |.eql=>some (.v (.bool (x.toList==y.toList)))
  |.neq=>some (.v (.bool !(x.toList==y.toList)))
  |_=>none
def vk(P:Program)(T:TypeId)(op:BinOp)(x y:Bool):Option AV:=
  match op,P.underlying T with
  |.eql,some .bool=>some (.v (.bool (x==y)))
  |.neq,some .bool=>some (.v (.bool !(x==y)))
  |_,_=>none
def mY(op:BinOp)(t:Bool):Option AV:=
  match op with
  |.eql=>some (.v (.bool t))
  |.neq=>some (.v (.bool !t))
  |_=>none
def It(P:Program):Nat→List Field→List AV→List AV→Option Bool
  |_,[],_,_=>some true
  |i,f::fs,.v (.int k a)::xs,.v (.int k' b)::ys=>
    match P.underlying f.type with
    | some (.int _)=>if k = k'∧f.name ≠ "_"∧f.offset = i then (It P (i + 1) fs xs ys).map fun r=>(a == b) && r else none
    |_=>none
  |_,_,_,_=>none
def Iu(P:Program)(T:TypeId)(op:BinOp)(xs ys:List AV):Option AV:=
  if P.stoodInHeld T=false∧P.eqGuardType P.depth T=false then
    match P.underlying T with
    |some (.struct fs)=>match It P 0 fs.toList xs ys with |some b=>mY op b|none=>none
    |_=>none
  else none
def dG(P:Program)(t:TypeId):Bool:=match P.underlying t with |some (.slice _)=>true|_=>false
def ly(P:Program)(t:TypeId):Bool:=match P.underlying t with |some (.pointer _)=>true|_=>false
def gV(P:Program)(op:BinOp)(T:TypeId):AV→AV→Option AV
  |.v (.int k a),.v (.int k' b)=>
    match op with
    |.shl=>ashift .shl k a b
    |.shr=>ashift .shr k a b
    |op=>if k=k' then fi op k a b else none
  |.v (.bool a),.v (.bool b)=>vk P T op a b
  |.v (.string a),.v (.string b)=>xk op a b
  |.v (.slice none _ _),.v (.slice none _ _)=>if dG P T=true then mY op true else none
  |.sl _ n _ sp,.v (.slice none _ _)=>if dG P T=true∧¬(n=0∧sp.isAny=true) then mY op false else none
  |.gR _ _ _ _ _,.v (.slice none _ _)=>if dG P T=true then mY op false else none
  |.v (.pointer none),.v (.pointer none)=>if ly P T=true then mY op true else none
  |.ptr _ _,.v (.pointer none)=>if ly P T=true then mY op false else none
  |.v (.pointer none),.ptr _ _=>if ly P T=true then mY op false else none
  |.agg xs,.agg ys=>Iu P T op xs ys
  |_,_=>none
def FK(op:UnOp):AV→Option AV
  |.v (.int k n)=>
    match op with
    |.neg=>some (.v (.int k (Dn k n)))
    |.xor=>some (.v (.int k (J1 k n)))
    |_=>none
  |.v (.bool b)=>match op with |.not=>some (.v (.bool !b))|_=>none
  |_=>none
def aconv(P:Program)(src dst:TypeId)(x:AV):Option AV:=
  match P.underlying src,P.underlying dst,x with
  |some (.int _),some (.int k),.v (.int _ n)=>some (.v (.int k (cG k n)))
  |some .string,some .string,.v (.string s)=>some (.v (.string s))
  |some (.slice e),some .string,.sl sz _ cs _=>
    match P.underlying e with
    |some (.int .u8)=>if sz=1∧cs.all isByte=true then some (.v (.string (mq cs))) else none
    |_=>none
  |some (.slice e),some .string,.v (.slice none _ _)=>
    match P.underlying e with
    |some (.int .u8)=>some (.v (.string .empty))
    |_=>none
  |some .string,some (.slice e),.v (.string s)=>
    match P.underlying e with
    |some (.int .u8)=>some (.sl 1 s.size (s.data.toList.map ai) .no)
    |_=>none
  |some (.slice _),some (.slice e),.sl sz n cs .new=>
    match P.underlying e with
    |some (.int .u8)=>if src=dst then some (.sl sz n cs .new) else none
    |_=>none
  |_,_,_=>none
def aindexAddr(P:Program)(T:TypeId)(x i:AV):Option AV:=
  match P.underlying T,x,i with
  |some (.slice e),.sl sz n cs _,.v (.int _ j)=>
    if 0≤j∧j<n∧P.cellsOf e=sz∧sz≠0 then some (.dr ((cs.drop (j.toNat*sz)).take sz)) else none
  |some (.slice e),.gR o off sz n _,.v (.int _ j)=>
    if 0≤j∧j<n∧P.cellsOf e=sz∧sz≠0 then some (.ptr o (off+j.toNat*sz)) else none
  |some (.array n e),.ptr o off,.v (.int _ j)=>
    if 0≤j∧j<n∧P.cellsOf e≠0 then some (.ptr o (off+j.toNat*P.cellsOf e)) else none
  |some (.array n e),.dr cs,.v (.int _ j)=>
    if 0≤j∧j<n∧P.cellsOf e≠0 then some (.dr (cs.drop (j.toNat*P.cellsOf e))) else none
  |_,_,_=>none
def aindex(P:Program)(T:TypeId)(x i:AV):Option AV:=
  match P.underlying T,x,i with
  |some (.array n e),.agg cs,.v (.int _ j)=>
    if 0≤j∧j<n∧P.cellsOf e≠0 then apart P e cs (j.toNat*P.cellsOf e) else none
  |some .string,.v (.string s),.v (.int _ j)=>
    if 0≤j then(match s[j.toNat]? with |some b=>some (ai b)|none=>none) else none
  |_,_,_=>none
def dR(d:Int):Option AV→Option Int
  |none=>some d
  |some (.v (.int _ j))=>some j
  |_=>none
def aslice(P:Program)(T:TypeId)(x:AV)(lo hi mx:Option AV):Option AV:=
  match P.underlying T,x with
  |some (.slice e),.sl sz n cs sp=>
    match dR 0 lo,dR n hi,dR n mx with
    |some l,some h,some m=>
      if 0≤l∧l≤h∧h≤n∧(mx.isSome=true→h=m)∧(mx.isSome=true→hi.isSome=true)∧P.cellsOf e=sz∧sz≠0 then
        some (.sl sz (h.toNat-l.toNat) ((cs.take (h.toNat*sz)).drop (l.toNat*sz))
          (match sp with
            |.any=>.any
            |.no=>if mx.isSome=true then .full else .no
            |.full=>if mx.isSome=true then .full else if h=n then .full else .no
            |.new=>if mx.isSome=true then .full else if h=n then .new else .no
            |.own t g=>if mx.isSome=true then .full else if h=n then(if l=0 then .own t g else .no) else .no))
      else none
    |_,_,_=>none
  |some (.slice e),.v (.slice none 0 0)=>
    match dR 0 lo,dR 0 hi,dR 0 mx with
    |some l,some h,some m=>if l=0∧h=0∧m=0∧P.cellsOf e≠0∧(mx.isSome=true→hi.isSome=true) then some (.v (.slice none 0 0)) else none
    |_,_,_=>none
  |some (.slice e),.gR o off sz n cap=>
    match dR 0 lo,dR n hi,mx with
    |some l,some h,none=>
      if 0≤l∧l≤h∧h≤cap∧P.cellsOf e=sz∧sz≠0 then
        some (.gR o (if(cap:Int)=l then off else off+l.toNat*sz) sz (h.toNat-l.toNat) (cap-l.toNat))
      else none
    |_,_,_=>none
  |some (.array n e),.ptr o off=>
    match dR 0 lo,dR n hi,mx with
    |some l,some h,none=>
      if 0≤l∧l≤h∧h≤n∧P.cellsOf e≠0 then
        some (.gR o (if(n:Int)=l then off else off+l.toNat*P.cellsOf e) (P.cellsOf e) (h.toNat-l.toNat) (n-l.toNat))
      else none
    |_,_,_=>none
  |some .string,.v (.string s)=>
    match dR 0 lo,dR s.size hi,mx with
    |some l,some h,none=>if 0≤l∧l≤h∧h≤s.size then some (.v (.string (s.extract l.toNat h.toNat))) else none
    |_,_,_=>none
  |_,_=>none
def abuiltin(P:Program)(b:Builtin)(argTypes:Array TypeId)(args:List AV):Option AV:=
  match b,args with
  |.len,[x]=>
    match(argTypes[0]?).bind P.underlying,x with
    |some (.slice _),.sl _ n _ _=>some (.v (.int .i64 n))
    |some (.slice _),.gR _ _ _ n _=>some (.v (.int .i64 n))
    |some (.slice _),.v (.slice none n _)=>some (.v (.int .i64 n))
    |some .string,.v (.string s)=>some (.v (.int .i64 s.size))
    |some (.array n _),_=>some (.v (.int .i64 n))
    |_,_=>none
  |.cap,[x]=>
    match(argTypes[0]?).bind P.underlying,x with
    |some (.slice _),.gR _ _ _ _ c=>some (.v (.int .i64 c))
    |some (.slice _),.v (.slice none _ c)=>some (.v (.int .i64 c))
    |some (.slice _),.sl _ n _ .full=>some (.v (.int .i64 n))
    |some (.slice _),.sl _ n _ .new=>some (.v (.int .i64 n))
    |_,_=>none
  |.min,[.v (.int k x),.v (.int k' y)]=>if k=k' then some (.v (.int k (if y<x then y else x))) else none
  |.max,[.v (.int k x),.v (.int k' y)]=>if k=k' then some (.v (.int k (if y>x then y else x))) else none
  |_,_=>none
def cH(P:Program)(ρ:Operand→AV):Op→Option AV
  |.move x=>some (ρ x)
  |.assign x=>some (ρ x)
  |.pick c a b=>match ρ c with |.v (.bool t)=>some (if t=true then ρ a else ρ b)|_=>none
  |.binOp op T x y _=>gV P op T (ρ x) (ρ y)
  |.unOp op _ x=>FK op (ρ x)
  |.convert src dst x=>aconv P src dst (ρ x)
  |.nilCheck x=>
    match ρ x with
    |.ptr o off=>some (.ptr o off)
    |.dr cs=>some (.dr cs)
    |.qx f cs=>some (.qx f cs)
    |.v (.func (.func f) a b)=>some (.v (.func (.func f) a b))
    |_=>none
  |.fieldAddr S x i=>
    match bX P S i with
    |some (off,T)=>
      if P.cellsOf T=0 then none else
      match ρ x with
      |.ptr o a=>some (.ptr o (a+off))
      |.dr cs=>some (.dr (cs.drop off))
      |_=>none
    |none=>none
  |.field S x i=>
    match bX P S i,ρ x with
    |some (off,T),.agg cs=>if P.cellsOf T=0 then none else apart P T cs off
    |_,_=>none
  |.indexAddr T x i=>aindexAddr P T (ρ x) (ρ i)
  |.index T x i=>aindex P T (ρ x) (ρ i)
  |.load T x=>match ρ x with |.dr cs=>if P.cellsOf T=0 then none else oA P T cs|_=>none
  |.slice T x lo hi mx=>aslice P T (ρ x) (lo.map ρ) (hi.map ρ) (mx.map ρ)
  |.extract t i=>match ρ t with |.eo cs=>cs[i]? |_=>none
  |.build T parts=>
    match P.underlying T,bq P T with
    |some (.struct _),some z=>
      if fh P T=true then(iM (placeOf P T) z (parts.toList.map fun p=>(p.1,ρ p.2))).map .agg else none
    |some (.array _ e),some z=>
      if P.cellsOf e=0 then none else(iM (fun i=>some (i*P.cellsOf e,P.cellsOf e)) z (parts.toList.map fun p=>(p.1,ρ p.2))).map .agg
    |_,_=>none
  |.buildSlice T len parts=>
    match P.underlying T with
    |some (.slice e)=>
      match bq P e with
      |some z=>
        if P.cellsOf e=0∨len*P.cellsOf e>2^24∨z.length≠P.cellsOf e then none else
        (iM (fun i=>some (i*P.cellsOf e,P.cellsOf e)) (oV (len*P.cellsOf e) z) (parts.toList.map fun p=>(p.1,ρ p.2))).map
          fun cs=>.sl (P.cellsOf e) len cs .new
      |none=>none
    |_=>none
  |.makeFunc (.func f) first captured=>if first.isEmpty=true then some (.qx f (captured.toList.map ρ)) else none
  |.call {callee:=.builtin b,args,argTypes}=>abuiltin P b argTypes (args.toList.map ρ)
  |_=>none
end Go.AM
namespace Go.AM
open Go Go.RowKit
variable{P:Program}{Γ:Nat→List AV}{G:Gh}{s:AS}{w:World}
theorem eQ{t:TypeId}(h:P.cellsOf t≠0):∃i,P.info? t=some i:=by
  cases hi:P.info? t with
  |some i=>exact⟨i,rfl⟩
  |none=>simp[Program.cellsOf,hi] at h
theorem aS{t:TypeId}(h:P.cellsOf t≠0)(w:World):(sizeOf t).run P w=.ok (P.cellsOf t) w:=by
  obtain⟨i,hi⟩:=eQ h;simp[sizeOf,typeInfo,hi,Program.cellsOf]
theorem wc{t:TypeId}(h:(P.info? t).isSome=true)(w:World):(sizeOf t).run P w=.ok (P.cellsOf t) w:=by
  obtain⟨i,hi⟩:=Option.isSome_iff_exists.1 h;simp[sizeOf,typeInfo,hi,Program.cellsOf]
theorem nG{t:TypeId}{b:Bool}(h:bO P t=some b)(w:World):(isAgg t).run P w=.ok b w:=by
  unfold bO at h;cases hu:P.underlying t with
  |none=>simp[hu] at h
  |some d=>cases d<;>simp[hu] at h<;>simp[isAgg,run_underlying hu,←h]
theorem cA(b o j:Nat):(⟨b,o,none⟩:Addr).add j=⟨b,o+j,none⟩:=by unfold Addr.add;split <;>simp_all
theorem aP.xa3(h:aP Γ G s w){b off:Nat}{vs:List Value}(k:gp G b off vs):∀(j:Nat)(u:Value),vs[j]? =some u→w.cell? ((⟨b,off,none⟩:Addr).add j)=some u:=by
  intro j u hj;rw[cA];exact h.ro _ _ _ (k j u hj)
theorem nH{t:TypeId}{b off:Nat}{cs:List AV}{vs:List Value}{r:AV}(hl:oA P t cs=some r)(hz:P.cellsOf t≠0)(hv:au G cs vs)
    (hc:∀(j:Nat)(u:Value),vs[j]? =some u→w.cell? ((⟨b,off,none⟩:Addr).add j)=some u):
    ∃v,(loadVar t ⟨b,off,none⟩).run P w=.ok v w∧av G r v:=by
  unfold oA at hl;cases hA:bO P t with
  |none=>simp[hA] at hl
  |some b0=>
    cases b0 with
    |true=>
      simp only[hA] at hl;split at hl
      · rename_i hle;simp at hl;subst hl;have hlen:=hv.length;refine⟨.agg (vs.take (P.cellsOf t)).toArray,?_,by simp only[av];exact⟨_,rfl,hv.take _⟩⟩;simp only[loadVar,Sem.run_bind,nG hA,Result.andThen_ok,if_true,aS hz];have:=run_loadCells_list (P:=P) w ⟨b,off,none⟩ (vs.take (P.cellsOf t)) (fun j u hj=>hc j u (by
          rw[List.getElem?_take] at hj;split at hj
          · exact hj
          · cases hj))
        have BM:(vs.take (P.cellsOf t)).length=P.cellsOf t:=(by simp;omega);rw[BM] at this;simp[this]
      · cases hl
    |false=>
      simp only[hA] at hl;obtain⟨u,h1,h2⟩:=hv.get 0 r hl;refine⟨u,?_,h2⟩;have:=hc 0 u h1;simp only[Addr.add_zero'] at this;simp[loadVar,nG hA,this]
theorem lz{r:AV}{v:Value}(h:av G r v):au G r.cells v.cells.toList:=by
  cases r with
  |agg cs=>
    simp only[av] at h;obtain⟨vs,rfl,h2⟩:=h;simpa[AV.cells,Value.cells] using h2
  |v x=>
    simp only[av] at h;subst h;cases v<;>first
      |(simp only[AV.cells,Value.cells,au];exact⟨_,[],rfl,by simp[av],rfl⟩)
      |(simp only[AV.cells,Value.cells];exact au.Dk _)
  |sl sz n cs sp=>
    have h':=h;simp only[av] at h';rcases h' with⟨b,off,cap,vs,rfl,_⟩|⟨rfl,rfl,a,cap,rfl,_⟩|⟨rfl,rfl,rfl,rfl⟩<;>
      (simp only[AV.cells,Value.cells,au];exact⟨_,[],rfl,h,rfl⟩)
  |dr cs=>
    have h':=h;simp only[av] at h';obtain⟨b,off,vs,rfl,_⟩:=h';simp only[AV.cells,Value.cells,au];exact⟨_,[],rfl,h,rfl⟩
  |ptr o off=>
    have h':=h;simp only[av] at h';obtain⟨b,_,rfl⟩:=h';simp only[AV.cells,Value.cells,au];exact⟨_,[],rfl,h,rfl⟩
  |gR o off sz n cap=>
    have h':=h;simp only[av] at h';obtain⟨b,_,rfl,_⟩:=h';simp only[AV.cells,Value.cells,au];exact⟨_,[],rfl,h,rfl⟩
  |eo cs=>
    have h':=h;simp only[av] at h';obtain⟨vs,rfl,_⟩:=h';simp only[AV.cells,Value.cells,au];exact⟨_,[],rfl,h,rfl⟩
  |qx f cs=>
    have h':=h;simp only[av] at h';obtain⟨vs,rfl,_⟩:=h';simp only[AV.cells,Value.cells,au];exact⟨_,[],rfl,h,rfl⟩
theorem AD{t:TypeId}{cs:List AV}{vs:List Value}{off:Nat}{r:AV}(h:apart P t cs off=some r)(hz:P.cellsOf t≠0)(hv:au G cs vs):
    ∃v,(part t vs.toArray off).run P w=.ok v w∧av G r v:=by
  unfold apart at h;cases hA:bO P t with
  |none=>simp[hA] at h
  |some b0=>
    cases b0 with
    |true=>
      simp only[hA] at h;simp at h;subst h;refine⟨.agg ((vs.drop off).take (P.cellsOf t)).toArray,?_,by simp only[av];exact⟨_,rfl,(hv.drop _).take _⟩⟩;simp only[part,Sem.run_bind,nG hA,Result.andThen_ok,if_true,aS hz];simp[List.extract_eq_take_drop]
    |false=>
      simp only[hA] at h;obtain⟨u,h1,h2⟩:=hv.get off r h;refine⟨u,?_,h2⟩;simp[part,nG hA,h1]
def Dp(Γ:Nat→List AV)(G:Gh)(s:AS)(r:AV)(R:Result Next):Prop:=
  ∃G' v w',R=.ok (.value v) w'∧G.le G'∧aP Γ G' s w'∧av G' r v
theorem Dp.same{r:AV}{v:Value}{R:Result Next}(hs:aP Γ G s w)(h1:R=.ok (.value v) w)(h2:av G r v):Dp Γ G s r R:=
  ⟨G,v,w,h1,.refl G,hs,h2⟩
section binops
theorem Iv(op:BinOp)(k:IntKind)(a b:Int)(r:AV)(h:fi op k a b=some r)(T:TypeId)(dK:op≠.shl∧op≠.shr):
    ∃v,(binOp op T (.int k a) (.int k b)).run P w=.ok v w∧av G r v:=by
  cases op<;>simp[fi] at h dK<;>first
    |(subst h;exact⟨_,by simp[binOp,Op.intArith,Op.intBits,Op.intCmp];rfl,by simp[av,ec,di,gO,mg,FJ,Dm,Ho]⟩)
    |(obtain⟨h1,h2⟩:=h;subst h2;exact⟨_,by simp[binOp,Op.intDiv,h1];rfl,by simp[av,kK,iG]⟩)
theorem vl(op:BinOp)(k k':IntKind)(a b:Int)(r:AV)(h:ashift op k a b=some r)(T:TypeId):
    ∃v,(binOp op T (.int k a) (.int k' b)).run P w=.ok v w∧av G r v:=by
  unfold ashift at h;split at h
  · cases h
  · rename_i hb;cases op<;>simp at h<;>
      (subst h;exact⟨_,by simp only[binOp,Op.shift];rw[if_neg hb];rfl,by simp[av,kj,eJ]⟩)
end binops
theorem Dq(op:BinOp)(t:TypeId)(x y:Operand)(k k':IntKind)(a b:Int)(w:World):(eqGuard op t x y (.int k a) (.int k' b)).run P w=.ok () w:=by
  cases op<;>simp[eqGuard]
theorem BN(op:BinOp)(t:TypeId)(x y:Operand)(a b:Bool)(w:World):(eqGuard op t x y (.bool a) (.bool b)).run P w=.ok () w:=by
  cases op<;>simp[eqGuard]
theorem xl(op:BinOp)(t:TypeId)(x y:Operand)(a b:ByteArray)(w:World):(eqGuard op t x y (.string a) (.string b)).run P w=.ok () w:=by
  cases op<;>simp[eqGuard]
theorem jd(op:BinOp)(t:TypeId)(x y:Operand)(a b:Option Addr)(n c n' c':Nat)(w:World):(eqGuard op t x y (.slice a n c) (.slice b n' c')).run P w=.ok () w:=by
  cases op<;>simp[eqGuard]
theorem km(op:BinOp)(t:TypeId)(x y:Operand)(a b:Option Addr)(w:World):(eqGuard op t x y (.pointer a) (.pointer b)).run P w=.ok () w:=by
  cases op<;>simp[eqGuard]
theorem Iw(op:BinOp)(x y:ByteArray)(r:AV)(h:xk op x y=some r)(T:TypeId):
    ∃v,(binOp op T (.string x) (.string y)).run P w=.ok v w∧av G r v:=by
  cases op<;>simp[xk] at h;case add=>
    obtain⟨h1,h2⟩:=h;subst h2;refine⟨_,?_,by simp[av];rfl⟩;have :¬(((x.size+y.size:Nat):Int)>IntKind.i64.max):=by
      have e:IntKind.i64.max=9223372036854775807:=rfl;rw[e];push_cast;omega
    simp only[binOp,Op.stringOp];rw[if_neg this];rfl
  all_goals(subst h;exact⟨_,by simp[binOp,Op.stringOp];rfl,by simp[av]⟩)
theorem gW{T:TypeId}{x y:Value}{r:Result Bool}(h:∀d,(Op.equalIn (d+1) T x y).run P w=r):(Op.equal T x y).run P w=r:=h 9999
theorem oB{T:TypeId}(hT:dG P T=true)(a b:Option Addr)(n c n' c':Nat)(zy:a=none∨b=none):
    (Op.equal T (.slice a n c) (.slice b n' c')).run P w=.ok (a.isNone&&b.isNone) w:=by
  unfold dG at hT;cases hu:P.underlying T with
  |none=>simp[hu] at hT
  |some d=>
    cases d<;>simp[hu] at hT;refine gW fun d=>?_;rcases zy with rfl|rfl
    · cases b<;>simp[Op.equalIn,run_underlying hu]
    · cases a<;>simp[Op.equalIn,run_underlying hu]
theorem qD{T:TypeId}(hT:ly P T=true)(a:Option Addr):
    (Op.equal T (.pointer a) (.pointer none)).run P w=.ok a.isNone w:=by
  unfold ly at hT;cases hu:P.underlying T with
  |none=>simp[hu] at hT
  |some d=>
    cases d<;>simp[hu] at hT;refine gW fun d=>?_;cases a<;>simp[Op.equalIn,run_underlying hu]
theorem kL{op:BinOp}{T:TypeId}{a b:Option Addr}{n c n' c':Nat}{r:AV}{t:Bool}(hT:dG P T=true)(h:mY op t=some r)
    (zy:a=none∨b=none) (ht:(a.isNone&&b.isNone)=t):
    ∃v,(binOp op T (.slice a n c) (.slice b n' c')).run P w=.ok v w∧av G r v:=by
  cases op<;>simp[mY] at h<;>subst h
  · exact⟨.bool t,by simp[binOp,oB hT a b n c n' c' zy,ht],by simp[av]⟩
  · exact⟨.bool !t,by simp[binOp,oB hT a b n c n' c' zy,←ht],by simp[av]⟩
theorem xm{op:BinOp}{T:TypeId}{a:Option Addr}{r:AV}{t:Bool}(hT:ly P T=true)(h:mY op t=some r)(zy:a.isNone=t):
    ∃v,(binOp op T (.pointer a) (.pointer none)).run P w=.ok v w∧av G r v:=by
  cases op<;>simp[mY] at h<;>subst h
  · exact⟨.bool t,by simp[binOp,qD hT a,zy],by simp[av]⟩
  · exact⟨.bool !t,by simp[binOp,qD hT a,zy],by simp[av]⟩
theorem po{T:TypeId}(hT:ly P T=true)(a:Option Addr):
    (Op.equal T (.pointer none) (.pointer a)).run P w=.ok a.isNone w:=by
  unfold ly at hT;cases hu:P.underlying T with
  |none=>simp[hu] at hT
  |some d=>
    cases d<;>simp[hu] at hT;refine gW fun d=>?_;cases a<;>simp[Op.equalIn,run_underlying hu]
theorem Dr{op:BinOp}{T:TypeId}{a:Option Addr}{r:AV}{t:Bool}(hT:ly P T=true)(h:mY op t=some r)(zy:a.isNone=t):
    ∃v,(binOp op T (.pointer none) (.pointer a)).run P w=.ok v w∧av G r v:=by
  cases op<;>simp[mY] at h<;>subst h
  · exact⟨.bool t,by simp[binOp,po hT a,zy],by simp[av]⟩
  · exact⟨.bool !t,by simp[binOp,po hT a,zy],by simp[av]⟩
theorem sw{d:Nat}{XU XV:Array Value}:∀(fs:List Field)(i:Nat)(as bs:List AV)(us vs:List Value)(b:Bool),It P i fs as bs=some b→au G as us→au G bs vs→(∀j u,us[j]? =some u→XU[i+j]? =some u)→(∀j u,vs[j]? =some u→XV[i+j]? =some u)→
    (Op.eqFields (d+1) XU XV fs).run P w=.ok b w
  |[],i,as,bs,us,vs,b,h,_,_,_,_=>by
    simp only[It,Option.some.injEq] at h;subst h;simp[Op.eqFields]
  |f::fs,i,as,bs,us,vs,b,h,hu,hv,h1,h2=>by
    unfold It at h;split at h
    · rename_i e;cases e
    · rename_i i _ _ _ _ f' fs' k a as' k' c bs' e;cases e;simp only[au,av] at hu hv;obtain⟨_,v8,rfl,rfl,hu⟩:=hu;obtain⟨_,Nn,rfl,rfl,hv⟩:=hv;split at h
      · rename_i k0 hT;split at h
        · rename_i hc;obtain⟨rfl,hn,ho⟩:=hc;cases hr:It P (i+1) fs as' bs' with
          |none=>rw[hr] at h;cases h
          |some r=>
            rw[hr] at h;simp only[Option.map_some,Option.some.injEq] at h;subst h;have ih:=sw (d:=d) (XU:=XU) (XV:=XV) fs (i+1) as' bs' v8 Nn r hr hu hv (fun j u q=>by rw[Nat.add_assoc,Nat.add_comm 1];exact h1 (j+1) u (by simpa using q)) (fun j u q=>by rw[Nat.add_assoc,Nat.add_comm 1];exact h2 (j+1) u (by simpa using q));have g1:=h1 0 _ rfl;have g2:=h2 0 _ rfl;simp only[Nat.add_zero] at g1 g2;simp only[Op.eqFields,hn,ne_eq,not_false_eq_true,if_true,Sem.run_bind,ho];have p1:(part f.type XU i).run P w=.ok (.int k a) w:=(by simp[part,isAgg,run_underlying hT,g1]);have p2:(part f.type XV i).run P w=.ok (.int k c) w:=(by simp[part,isAgg,run_underlying hT,g2]);rw[p1,Result.andThen_ok,p2,Result.andThen_ok,run_equalIn_int w d f.type k k0 a c hT,Result.andThen_ok];cases hac:(a==c)
            · simp
            · simpa using ih
        · cases h
      · cases h
    · cases h
theorem J2{op:BinOp}{T:TypeId}{xs ys:List AV}{us vs:List Value}{r:AV}(ox oy:Operand)(h:Iu P T op xs ys=some r)(hx:au G xs us)(hy:au G ys vs):
    (eqGuard op T ox oy (.agg us.toArray) (.agg vs.toArray)).run P w=.ok () w∧∃z,(binOp op T (.agg us.toArray) (.agg vs.toArray)).run P w=.ok z w∧av G r z:=by
  unfold Iu at h;split at h
  · rename_i hc;refine⟨run_eqGuard_agg w op T ox oy _ _ hc.2,?_⟩;split at h
    · rename_i fs hT;split at h
      · rename_i b hb;have hf:P.fieldsOf T=fs:=(by simp[Program.fieldsOf,hT]);have hq:(Op.equalIn 10000 T (.agg us.toArray) (.agg vs.toArray)).run P w=.ok b w:=by
          rw[run_equalIn_struct w 9999 T _ _ (by rw[hf];exact hT) hc.1,hf];exact sw (d:=9998) fs.toList 0 xs ys us vs b hb hx hy (fun j u q=>by simpa using q) (fun j u q=>by simpa using q)
        cases op<;>simp[mY] at h<;>subst h
        · exact⟨.bool b,by rw[run_eql_struct,hq];rfl,by simp[av]⟩
        · exact⟨.bool !b,by rw[run_neq_struct,hq];rfl,by simp[av]⟩
      · cases h
    · cases h
  · cases h
theorem J3{op:BinOp}{T:TypeId}{x y:AV}{u v:Value}{r:AV}(ox oy:Operand)(h:gV P op T x y=some r)(hx:av G x u)(hy:av G y v):
    (eqGuard op T ox oy u v).run P w=.ok () w∧∃z,(binOp op T u v).run P w=.ok z w∧av G r z:=by
  unfold gV at h;split at h
  · rename_i k a k' b;simp only[av] at hx hy;subst hx hy;refine⟨Dq ..,?_⟩;split at h
    · exact vl _ _ _ _ _ _ h T
    · exact vl _ _ _ _ _ _ h T
    · rename_i op h1 h2;split at h
      · rename_i hk;subst hk;exact Iv _ _ _ _ _ h T ⟨h1,h2⟩
      · cases h
  · rename_i a b;simp only[av] at hx hy;subst hx hy;refine⟨BN ..,?_⟩;unfold vk at h;split at h
    · rename_i hu;simp at h;subst h;exact⟨_,by simp only[binOp,Sem.run_bind,gW (P:=P) (w:=w) (T:=T) (x:=.bool a) (y:=.bool b) (r:=.ok (a==b) w) (fun d=>by simp[Op.equalIn,run_underlying hu])];rfl,by simp[av]⟩
    · rename_i hu;simp at h;subst h;exact⟨_,by simp only[binOp,Sem.run_bind,gW (P:=P) (w:=w) (T:=T) (x:=.bool a) (y:=.bool b) (r:=.ok (a==b) w) (fun d=>by simp[Op.equalIn,run_underlying hu])];rfl,by simp[av]⟩
    · cases h
  · simp only[av] at hx hy;subst hx hy;exact⟨xl ..,Iw _ _ _ _ h T⟩
  · simp only[av] at hx hy;subst hx hy;split at h
    · rename_i hT;exact⟨jd ..,kL hT h (.inl rfl) rfl⟩
    · cases h
  · simp only[av] at hx hy;subst hy;rcases hx with⟨b,off,cap,vs,rfl,_⟩|⟨rfl,rfl,a,cap,rfl,_⟩|⟨rfl,rfl,rfl,rfl⟩
    · split at h
      · rename_i hT;exact⟨jd ..,kL hT.1 h (.inr rfl) rfl⟩
      · cases h
    · split at h
      · rename_i hT;exact⟨jd ..,kL hT.1 h (.inr rfl) rfl⟩
      · cases h
    · rw[if_neg (by simp[Sp.isAny])] at h;cases h
  · simp only[av] at hx hy;obtain⟨b,_,rfl,_⟩:=hx;subst hy;split at h
    · rename_i hT;exact⟨jd ..,kL hT h (.inr rfl) rfl⟩
    · cases h
  · simp only[av] at hx hy;subst hx hy;split at h
    · rename_i hT;exact⟨km ..,xm hT h rfl⟩
    · cases h
  · simp only[av] at hx hy;obtain⟨b,_,rfl⟩:=hx;subst hy;split at h
    · rename_i hT;exact⟨km ..,xm hT h rfl⟩
    · cases h
  · simp only[av] at hx hy;obtain⟨b,_,rfl⟩:=hy;subst hx;split at h
    · rename_i hT;exact⟨km ..,Dr hT h rfl⟩
    · cases h
  · simp only[av] at hx hy;obtain⟨us,rfl,hx⟩:=hx;obtain⟨vs,rfl,hy⟩:=hy;exact J2 ox oy h hx hy
  · cases h
theorem NS{op:UnOp}{x:AV}{u:Value}{r:AV}(h:FK op x=some r)(hx:av G x u):∃z,(Op.unary op u).run P w=.ok z w∧av G r z:=by
  unfold FK at h;split at h
  · simp only[av] at hx;subst hx;cases op<;>simp at h<;>subst h
    · exact⟨_,by simp[Op.unary,Op.intArith];rfl,by simp[av,Dn]⟩
    · exact⟨_,by simp only[Op.unary,Op.intBits];rfl,by simp[av,J1]⟩
  · simp only[av] at hx;subst hx;cases op<;>simp at h;subst h;exact⟨_,by simp[Op.unary];rfl,by simp[av]⟩
  · cases h
theorem pq:∀{cs:List AV}{vs:List Value},au G cs vs→cs.all isByte=true→
    ∃xs:List Int,vs=xs.map (Value.int .u8)∧cs.map byteOf=xs.map (fun n=>UInt8.ofNat n.toNat)
  |[],vs,h,_=>by simp only[au] at h;subst h;exact⟨[],rfl,rfl⟩
  |c::cs,vs,h,ha=>by
    simp only[au] at h;obtain⟨u,us,rfl,h2,h3⟩:=h;simp only[List.all_cons,Bool.and_eq_true] at ha;obtain⟨xs,rfl,h5⟩:=pq h3 ha.2;have h1:=ha.1;unfold isByte at h1;split at h1
    · rename_i n;simp only[av] at h2;subst h2;exact⟨n::xs,rfl,by simp[byteOf,h5]⟩
    · cases h1
theorem aP.BO{w':World}(h:aP Γ G s w)(hc:∀b j,w'.cell? ⟨b,j,none⟩=w.cell? ⟨b,j,none⟩)
    (hf:∀b j,Kn G s b→w.cell? ⟨b,j,none⟩≠none→w'.frozen? ⟨b,j,none⟩=w.frozen? ⟨b,j,none⟩)
    (eR:w.heap.size=w'.heap.size) (hb:Below G.B w w') (NT:dm G.w0 w') (UA:Iq (Kn G s) w'):aP Γ G s w' where
  ro b j u hu:=by rw[hc];exact h.ro b j u hu
  aw o cs ho:=by
    obtain⟨b,vs,h1,h2,h3,h4⟩:=h.aw o cs ho;refine⟨b,vs,h1,h2,h3,fun j u hu=>?_⟩;obtain⟨k1,k2,k3⟩:=h4 j u hu;exact⟨by rw[hc];exact k1,by rw[hf b j (.inl ⟨o,h1⟩) (by rw[k1];simp)];exact k2,k3⟩
  cV o b hb:=by rw[←eR];exact h.cV o b hb
  inj:=h.inj;own t e he:=by
    obtain⟨b,st,en,h1,h2,h3,h4,h5,h6⟩:=h.own t e he;refine⟨b,st,en,h1,h2,h3,fun j hj kJ=>?_,h5,by omega⟩;obtain⟨⟨u,k1⟩,k2,k3⟩:=h4 j hj kJ;exact⟨⟨u,by rw[hc];exact k1⟩,by rw[hf b j (.inr ⟨t,e,_,he,h1⟩) (by rw[k1];simp)];exact k2,k3⟩
  cF:=h.cF;bS:=h.bS;cv:=h.cv;b7:=h.b7;below:=h.below.trans hb;others:=NT;base:=by have:=h.base;omega
  gN:=h.gN;soft:=UA
theorem vm(w:World)(a:Addr)(n b j:Nat):(w.freeze a n).cell? ⟨b,j,none⟩=w.cell? ⟨b,j,none⟩:=by
  unfold World.freeze;split
  · rfl
  · simp only[World.cell?,Array.getElem?_modify];by_cases hb:a.block=b
    · simp only[hb,if_true];cases hh:w.heap[b]? with
      |none=>simp
      |some x=>cases x<;>simp
    · simp[hb]
theorem kG(w:World)(a:Addr)(n b j:Nat)(h:a.block≠b):(w.freeze a n).frozen? ⟨b,j,none⟩=w.frozen? ⟨b,j,none⟩:=by
  unfold World.freeze;split
  · rfl
  · simp only[World.frozen?,Array.getElem?_modify];rw[if_neg h]
theorem sx(w:World)(c:Array Value)(T:TypeId)(j:Nat)(hj:j<c.size):
    ((w.alloc (.cells c T)).freeze ⟨w.heap.size,c.size,none⟩ 1).frozen? ⟨w.heap.size,j,none⟩=false:=by
  unfold World.freeze;rw[if_neg (by omega)];simp only[World.frozen?,Array.getElem?_modify,if_true];have :(w.alloc (.cells c T)).heap[w.heap.size]? =some (.cells c T):=by
    show(w.heap.push _)[w.heap.size]? =_;rw[Array.getElem?_push_size]
  rw[this];simp;omega
theorem vn(w:World)(a:Addr)(n:Nat):(w.freeze a n).heap.size=w.heap.size:=by
  unfold World.freeze;split <;>simp
theorem sy{B:Nat}(w:World)(a:Addr)(n:Nat)(h:B≤a.block):Below B w (w.freeze a n):=by
  unfold World.freeze;split
  · exact Below.refl _ _
  · refine⟨rfl,rfl,rfl,by simp,fun k hk=>?_⟩;rw[Array.getElem?_modify,if_neg (by omega)]
theorem vo{K:Nat→Prop}{w:World}(h:Iq K w){b n:Nat}(hn:∀c T fr,w.heap[b]? =some (.cells c T fr)→c.size≤n):
    ∀b' c T lo hi,K b'→(w.freeze ⟨b,n,none⟩ 1).heap[b']? =some (.cells c T (lo,hi))→lo=hi∨c.size≤lo:=by
  intro b' c T lo hi hB hc;unfold World.freeze at hc;rw[if_neg (by omega)] at hc;simp only[Array.getElem?_modify] at hc;split at hc
  · rename_i zu;cases hh:w.heap[b']? with
    |none=>simp[hh] at hc
    |some o=>
      simp only[hh,Option.map_some,Option.some.injEq] at hc;cases o with
      |cells c' T' fr=>
        obtain⟨RD,aY⟩:=fr;simp only[Obj.cells.injEq] at hc;obtain⟨rfl,rfl,h3⟩:=hc;have h1:=h b' c' T' RD aY hB hh;have h2:=hn c' T' _ (zu ▸ hh);split at h3
        · simp only[Prod.mk.injEq] at h3;obtain⟨rfl,rfl⟩:=h3;exact .inr h2
        · rename_i dK;simp only[beq_iff_eq] at dK;simp only[Prod.mk.injEq] at h3;obtain⟨rfl,rfl⟩:=h3;have :c'.size≤RD:=h1.resolve_left dK;exact .inr (by omega)
      |_=>cases hc
  · exact h b' c T lo hi hB hc
theorem aP.NU(h:aP Γ G s w){b off:Nat}(hB:G.B≤b):∃w',(markStringish ⟨b,off,none⟩).run P w=.ok () w'∧aP Γ G s w':=by
  cases hh:w.heap[b]? with
  |none=>exact⟨w,by simp[markStringish,run_shape,World.shape?,hh],h⟩
  |some o=>
    cases o with
    |cells c T fr=>
      obtain⟨lo,hi⟩:=fr;refine⟨w.freeze ⟨b,c.size,none⟩ 1,by simp[markStringish,run_shape,World.shape?,hh],?_⟩;have hs:=fun hk=>h.soft b c T lo hi hk hh;refine h.BO (fun b j=>vm ..) (fun b' j hk hc=>?_) (vn ..).symm (sy _ _ _ hB) (h.others.trans (dm.freeze _ _ _)) (vo h.soft (fun c' T' fr' h'=>by rw[hh] at h';cases h';exact Nat.le_refl _));by_cases e:b=b'
      · subst e;have hs:=hs hk;have hj:j<c.size:=by
          rcases Nat.lt_or_ge j c.size with h'|h'
          · exact h'
          · exact absurd (by simp[World.cell?,hh,Array.getElem?_eq_none h']) hc
        unfold World.freeze;rw[if_neg (by omega)];simp only[World.frozen?,Array.getElem?_modify,if_true,hh,Option.map_some];by_cases hl:lo=hi
        · subst hl;simp only[beq_self_eq_true,if_true];rw[Bool.eq_iff_iff];simp only[Bool.and_eq_true,decide_eq_true_eq];omega
        · have :c.size≤lo:=hs.resolve_left hl;rw[if_neg (by simpa using hl)];rw[Bool.eq_iff_iff];simp only[Bool.and_eq_true,decide_eq_true_eq];omega
      · exact kG _ _ _ _ _ e
    |_=>exact⟨w,by simp[markStringish,run_shape,World.shape?,hh],h⟩
theorem aP.pr(h:aP Γ G s w)(vs us:List Value)(T:TypeId)(t e:Nat)(ht:∀e',e≤e'→G.tok t e'=none):
    ∃G',G.le G'∧aP Γ G' (s.bw t e) (w.alloc (.cells (vs++us).toArray T))∧gp G' w.heap.size 0 vs∧G'.tok t e=some (w.heap.size,vs.length,(vs++us).length)∧(∀o,G'.obj o=G.obj o)∧G.B=G'.B:=by
  obtain⟨hle,hS⟩:=h.Qi vs (vs++us).toArray T (fun j u hu=>by
    have :j<vs.length:=by
      rcases Nat.lt_or_ge j vs.length with h|h
      · exact h
      · simp[List.getElem?_eq_none h] at hu
    simp[List.getElem?_append_left this,hu])
  have hg:=hS.bw (t:=t) (e:=e) (b:=w.heap.size) (st:=vs.length) (en:=(vs++us).length) (ht e (Nat.le_refl _)) (fun e' he'=>ht e' (by omega)) (by simp) h.base
    (fun j hj kJ=>by
      refine⟨⟨(vs++us)[j]'kJ,by rw[World.cell?_alloc_new];simp⟩,World.frozen?_alloc_new ..,?_⟩
      simp only[Gh.eI]
      rw[if_neg (by omega)]
      exact rl h j)
    (fun o ho=>absurd (h.cV o _ ho) (Nat.lt_irrefl _)) (by simp)
    (fun t' e' wU wW dK ho hk=>by
      obtain⟨b1,Ux,Uy,k1,_,_,_,_,k6⟩:=h.own t' e' ho
      have :G.tok t' e'=some (w.heap.size,wU,wW):=hk
      rw[k1] at this
      simp at this
      omega)
    (fun c T' lo hi hc=>by rw[Hn] at hc;cases hc;exact .inl rfl)
  exact⟨_,hle.trans hg.1,hg.2,(gp.added G w.heap.size 0 vs).mono hg.1,by simp[Gh.gT],fun _=>rfl,rfl⟩
def du(l:List UInt8):List Value:=l.map fun b=>Value.int .u8 b.toNat
def fW(n:Nat):List Value:=List.replicate n (Value.int .u8 0)
theorem mr(l:List UInt8):au G (l.map ai) (du l):=by
  unfold du;induction l with
  |nil=>simp[au]
  |cons b l ih=>simp only[List.map_cons,au];exact⟨_,_,rfl,by simp[ai,av],ih⟩
theorem eS(need old:Nat)(e:TypeId)(x:Nat):need≤(Question.appendCap need old e).cut x:=by simp[Question.cut]
theorem mw(e:TypeId)(b:ByteArray)(w:World):∃cap:Nat,b.size≤cap∧
    (Conv.stringToBytes e b).run P w=.ok (.slice (some ⟨w.heap.size,0,none⟩) b.size cap)
      ((w.drew.alloc (.cells (du b.data.toList++fW (cap-b.size)).toArray e)).freeze ⟨w.heap.size,cap,none⟩ 1):=by
  refine⟨_,eS b.size 0 e (w.tape w.drawn (.appendCap b.size 0 e)),?_⟩;generalize gu:(Question.appendCap b.size 0 e).cut (w.tape w.drawn (.appendCap b.size 0 e))=cap;have hle:b.size≤cap:=(by rw[←gu];exact eS ..);have hf:(Question.appendCap b.size 0 e).forced=false:=rfl;have xa4:(b.data.map fun b=>Value.int .u8 b.toNat)++Array.replicate (cap-b.size) (Value.int .u8 0)=(du b.data.toList++fW (cap-b.size)).toArray:=by
    apply Array.ext';simp[du,fW]
  have eR:(du b.data.toList++fW (cap-b.size)).toArray.size=cap:=by
    have :b.data.size=b.size:=rfl;simp[du,fW];omega
  have RF:(World.alloc w.drew (.cells (du b.data.toList++fW (cap-b.size)).toArray e)).shape? w.heap.size=some (e,cap):=by
    have :(World.alloc w.drew (.cells (du b.data.toList++fW (cap-b.size)).toArray e)).heap[w.heap.size]? =some (.cells (du b.data.toList++fW (cap-b.size)).toArray e):=by
      show(w.heap.push _)[w.heap.size]? =_;rw[Array.getElem?_push_size]
    simp only[World.shape?,this];rw[eR]
  simp only[Conv.stringToBytes,Sem.run_bind,run_choose,hf,Bool.false_eq_true,if_false,Result.andThen_ok,gu,newRow,run_newObj_alloc,Sem.run_pure,xa4,markStringish,run_shape,World.drew_eq];rw[show w.drew.heap.size=w.heap.size from rfl,RF];simp
theorem aP.stringToBytes(h:aP Γ G s w)(e:TypeId)(l:List UInt8)(k cap:Nat)(hk:l.length+k=cap)(t g:Nat)(ht:∀e',g≤e'→G.tok t e'=none):
    ∃G',G.le G'∧aP Γ G' (s.bw t g) ((w.drew.alloc (.cells (du l++fW k).toArray e)).freeze ⟨w.heap.size,cap,none⟩ 1)∧gp G' w.heap.size 0 (du l)∧G'.tok t g=some (w.heap.size,l.length,cap):=by
  obtain⟨G',h1,h2,h3,h4,h5,h6⟩:=h.drew.pr (du l) (fW k) e t g ht;have eR:(du l++fW k).toArray.size=cap:=(by simp[du,fW];omega);have hcell:∀c T fr,(w.drew.alloc (.cells (du l++fW k).toArray e)).heap[w.heap.size]? =some (.cells c T fr)→c.size≤cap:=by
    intro c T fr hc;have :(w.drew.alloc (.cells (du l++fW k).toArray e)).heap[w.heap.size]? =some (.cells (du l++fW k).toArray e):=by
      show(w.drew.heap.push _)[w.drew.heap.size]? =_;rw[Array.getElem?_push_size]
    rw[this] at hc;cases hc;omega
  refine⟨G',h1,h2.BO (fun b j=>vm ..) (fun b j hb hc=>?_) (vn ..).symm (sy _ _ _ (by rw[←h6];exact h.base)) (h2.others.trans (dm.freeze _ _ _)) (vo h2.soft hcell),h3,?_⟩
  · by_cases e':w.heap.size=b
    · subst e';have hj:j<(du l++fW k).toArray.size:=by
        rcases Nat.lt_or_ge j (du l++fW k).toArray.size with h|h
        · exact h
        · exact absurd (by
            have:=World.cell?_alloc_new w.drew (du l++fW k).toArray e j;rw[show w.drew.heap.size=w.heap.size from rfl] at this;rw[this,Array.getElem?_eq_none h]) hc
      have:=sx w.drew (du l++fW k).toArray e j hj;rw[eR] at this;have k2:=World.frozen?_alloc_new w.drew (du l++fW k).toArray e j;rw[show w.drew.heap.size=w.heap.size from rfl] at this k2;rw[this,k2]
    · exact kG _ _ _ _ _ e'
  · rw[h4];simp[du,fW,hk]
theorem Ix{src dst:TypeId}{x r:AV}{u:Value}(h:aconv P src dst x=some r)(hx:av G x u)(hs:aP Γ G s w):
    ∃G' v w',(convert src dst u).run P w=.ok v w'∧G.le G'∧aP Γ G' s w'∧av G' r v:=by
  unfold aconv at h;split at h
  · rename_i k k' Fp Fq;simp only[av] at hx;subst hx;cases h;exact⟨G,_,w,by simp[convert,run_underlying Fp,run_underlying Fq,Conv.intToInt];rfl,.refl G,hs,by simp[av,cG]⟩
  · rename_i Fp Fq;simp only[av] at hx;subst hx;cases h;exact⟨G,_,w,by simp[convert,run_underlying Fp,run_underlying Fq];rfl,.refl G,hs,by simp[av]⟩
  · rename_i e sz n cs sp Fp Fq;simp only[av] at hx;rcases hx with⟨b,off,cap,vs,rfl,hl,_,hv,qe,_⟩|⟨rfl,rfl,a,cap,rfl,_⟩|⟨rfl,rfl,rfl,rfl⟩;case inr.inl=>
      split at h
      · rename_i he;split at h
        · cases h;refine⟨G,.string (mq []),w,?_,.refl G,hs,by simp only[av]⟩;rw[run_convert_bytes_string w src dst e (some a) 0 cap Fp he Fq];have hl:(loadCells a 0).run P w=.ok #[] w:=run_loadCells_list (P:=P) w a [] (by simp);simp[Conv.bytesToString,hl,mq];rfl
        · cases h
      · cases h
    case inr.inr=>
      split at h
      · rename_i he;split at h
        · cases h;exact⟨G,_,w,run_convert_bytes_nil w src e Fp he _ _ dst Fq,.refl G,hs,by simp only[av];rfl⟩
        · cases h
      · cases h
    split at h
    · rename_i he;split at h
      · rename_i hc;obtain⟨rfl,bT⟩:=hc;cases h;obtain⟨xs,rfl,hb⟩:=pq hv bT;have hlen:=hv.length;refine⟨G,_,w,run_convert_bytes_arg w src e Fp he b off n cap xs (by simp at hlen;omega) (fun i hi=>?_) dst Fq,.refl G,hs,?_⟩
        · have aY:i<xs.length:=(by simp at hlen;omega);exact hs.ro _ _ _ (qe i _ (by simp[aY,List.getD]))
        · simp only[av,strOfNums,mq,hb]
      · cases h
    · cases h
  · rename_i e _ _ Fp Fq;simp only[av] at hx;subst hx;split at h
    · rename_i he;cases h;exact⟨G,_,w,run_convert_bytes_nil w src e Fp he _ _ dst Fq,.refl G,hs,by simp only[av]⟩
    · cases h
  · rename_i e b Fp Fq;simp only[av] at hx;subst hx;split at h
    · rename_i he;cases h;obtain⟨cap,hle,lA⟩:=mw (P:=P) e b w;obtain⟨G',h1,h2,h3,_⟩:=hs.stringToBytes e b.data.toList (cap-b.size) cap (by have :b.data.size=b.size:=rfl;simp;omega) G.nt 0 (fun e' _=>hs.b7 _ (Nat.le_refl _) e');refine⟨G',.slice (some ⟨w.heap.size,0,none⟩) b.size cap,_,?_,h1,h2.mono ⟨fun _ _ h=>h,fun t e he=>?_⟩,?_⟩
      · have :(convert src dst (.string b)).run P w=(Conv.stringToBytes e b).run P w:=by
          simp[convert,run_underlying Fp,run_underlying Fq,run_underlying he]
        rw[this,lA]
      · have :t≠G.nt:=(fun e'=>by subst e';rw[hs.gG (Nat.le_refl _)] at he;cases he);simpa[AS.bw,aH,this] using he
      · simp only[av];exact .inl ⟨w.heap.size,0,cap,du b.data.toList,rfl,by have :b.data.size=b.size:=rfl;simp[this],hle,mr _,h3,trivial⟩
    · cases h
  · rename_i e0 e sz n cs Fp Fq;simp only[av] at hx;rcases hx with⟨b,off,cap,vs,rfl,hl,hn,hv,qe,gu,hB⟩|⟨_,_,a,cap,_,hm⟩|⟨_,_,hm,_⟩;case inr.inl=>rcases hm with hm|hm|⟨hm,_⟩<;>cases hm
    case inr.inr=>cases hm
    split at h
    · rename_i he;split at h
      · rename_i Iy;subst Iy;rw[Fp] at Fq;cases Fq;cases h;obtain⟨w',q1,q2⟩:=hs.NU (P:=P) (b:=b) (off:=off) hB;refine⟨G,.slice (some ⟨b,off,none⟩) n cap,w',?_,.refl G,q2,?_⟩
        · simp[convert,run_underlying Fp,run_underlying he,q1]
        · simp only[av];exact .inl ⟨b,off,cap,vs,rfl,hl,hn,hv,qe,gu,hB⟩
      · cases h
    · cases h
  · cases h
end Go.AM
namespace Go.AM
open Go Go.RowKit
variable{P:Program}{Γ:Nat→List AV}{G:Gh}{s:AS}{w:World}
theorem gp.drop{b off:Nat}{vs:List Value}(h:gp G b off vs)(n:Nat):gp G b (off+n) (vs.drop n):=by
  intro j u hj;rw[List.getElem?_drop] at hj;have:=h (n+j) u hj;rwa [show off+n+j=off+(n+j) from by omega]
theorem gp.take{b off:Nat}{vs:List Value}(h:gp G b off vs)(n:Nat):gp G b off (vs.take n):=by
  intro j u hj;rw[List.getElem?_take] at hj;split at hj
  · exact h j u hj
  · cases hj
theorem xo{T:TypeId}{x i r:AV}{u v:Value}(h:aindexAddr P T x i=some r)(hx:av G x u)(hi:av G i v):
    ∃z,(Instr.indexAt T u v).run P w=.ok z w∧av G r z:=by
  unfold aindexAddr at h;split at h
  · rename_i e sz n cs sp k j hu;simp only[av] at hx hi;subst hi;rcases hx with⟨b,off,cap,vs,rfl,hl,_,hv,qe,_⟩|⟨rfl,_,a,cap,rfl,_⟩|⟨rfl,_,_,rfl⟩;case inr.inl=>
      split at h
      · rename_i hc;obtain⟨h0,h1,_⟩:=hc;exact absurd h1 (by omega)
      · cases h
    case inr.inr=>
      split at h
      · rename_i hc;obtain⟨h0,h1,_⟩:=hc;exact absurd h1 (by omega)
      · cases h
    split at h
    · rename_i hc;obtain⟨h0,h1,rfl,hz⟩:=hc;cases h;refine⟨.pointer (some ⟨b,off+j.toNat*P.cellsOf e,none⟩),?_,?_⟩
      · simp[Instr.indexAt,run_underlying hu,asIntOf,h0,h1,aS hz,cA]
      · simp only[av];exact⟨b,_,_,rfl,(hv.drop _).take _,(qe.drop _).take _⟩
    · cases h
  · rename_i e o off sz n cap k j hu;simp only[av] at hx hi;subst hi;obtain⟨b,ho,rfl,_⟩:=hx;split at h
    · rename_i hc;obtain⟨h0,h1,rfl,hz⟩:=hc;cases h;refine⟨.pointer (some ⟨b,off+j.toNat*P.cellsOf e,none⟩),?_,?_⟩
      · simp[Instr.indexAt,run_underlying hu,asIntOf,h0,h1,aS hz,cA]
      · simp only[av];exact⟨b,ho,rfl⟩
    · cases h
  · rename_i n e o off k j hu;simp only[av] at hx hi;subst hi;obtain⟨b,ho,rfl⟩:=hx;split at h
    · rename_i hc;obtain⟨h0,h1,hz⟩:=hc;cases h;refine⟨.pointer (some ⟨b,off+j.toNat*P.cellsOf e,none⟩),?_,?_⟩
      · simp[Instr.indexAt,run_underlying hu,Instr.sureAddr,asIntOf,h0,h1,aS hz,cA]
      · simp only[av];exact⟨b,ho,rfl⟩
    · cases h
  · rename_i n e cs k j hu;simp only[av] at hx hi;subst hi;obtain⟨b,off,vs,rfl,hv,qe⟩:=hx;split at h
    · rename_i hc;obtain⟨h0,h1,hz⟩:=hc;cases h;refine⟨.pointer (some ⟨b,off+j.toNat*P.cellsOf e,none⟩),?_,?_⟩
      · simp[Instr.indexAt,run_underlying hu,Instr.sureAddr,asIntOf,h0,h1,aS hz,cA]
      · simp only[av];exact⟨b,_,_,rfl,hv.drop _,qe.drop _⟩
    · cases h
  · cases h
theorem FL{T:TypeId}{x i r:AV}{u v:Value}(h:aindex P T x i=some r)(hx:av G x u)(hi:av G i v):
    ∃z,(Instr.index T u v).run P w=.ok z w∧av G r z:=by
  unfold aindex at h;split at h
  · rename_i n e cs k j hu;simp only[av] at hx hi;subst hi;obtain⟨vs,rfl,hv⟩:=hx;split at h
    · rename_i hc;obtain⟨h0,h1,hz⟩:=hc;obtain⟨z,JP,xp⟩:=AD (w:=w) h hz hv;refine⟨z,?_,xp⟩;simp[Instr.index,run_underlying hu,asIntOf,h0,h1,aS hz,JP]
    · cases h
  · rename_i b k j hu;simp only[av] at hx hi;subst hi hx;split at h
    · rename_i h0;split at h
      · rename_i c hc;cases h;refine⟨.int .u8 c.toNat,?_,by simp[ai,av]⟩;simp[Instr.index,run_underlying hu,asIntOf,h0,hc]
      · cases h
    · cases h
  · cases h
theorem run_sliceBound{x:Value}{y:Nat}{code:BoundsCode}{k:IntKind}{i:Int}(hx:x=.int k i)(h0:0≤i)(h1:i≤y):
    (Instr.sliceBound x y code).run P w=.ok i.toNat w:=by
  subst hx;simp[Instr.sliceBound,asIntOf,h0,h1]
inductive kn(G:Gh):Option AV→Option Value→Prop
  |none:kn G .none .none
  |some {a:AV} {v:Value}:av G a v→kn G (.some a) (.some v)
theorem bM{d l:Int}{a:Option AV}{v:Option Value}(h:dR d a=some l)(hr:kn G a v):(v=none∧l=d)∨∃k,v=some (.int k l):=by
  cases hr with
  |none=>simp[dR] at h;exact .inl ⟨rfl,h.symm⟩
  |some hv=>
    rename_i a v;cases a<;>simp[dR] at h;rename_i x;cases x<;>simp[dR] at h;simp only[av] at hv;subst hv h;exact .inr ⟨_,rfl⟩
theorem cQ{isSlice:Bool}{len cap:Nat}{l h:Int}{lo hi:Option Value}(BP:(lo=none∧l=0)∨∃k,lo=some (.int k l))(C9:(hi=none∧h=len)∨∃k,hi=some (.int k h))
    (h0:0≤l) (h1:l≤h) (h2:h≤cap) (w:World):
    (Instr.sliceBounds isSlice len cap lo hi none).run P w=.ok (l.toNat,h.toNat,cap) w:=by
  unfold Instr.sliceBounds;rcases C9 with⟨rfl,rfl⟩|⟨k',rfl⟩
  · rcases BP with⟨rfl,rfl⟩|⟨k,rfl⟩
    · simp
    · simp[run_sliceBound (P:=P) (w:=w) (x:=.int k l) (y:=len) (code:=.sliceB) rfl h0 h1]
  · rcases BP with⟨rfl,rfl⟩|⟨k,rfl⟩
    · simp[run_sliceBound (P:=P) (w:=w) (x:=.int k' h) (y:=cap) rfl (by omega) h2]
    · have e:((h.toNat:Nat):Int)=h:=(by omega);simp[run_sliceBound (P:=P) (w:=w) (x:=.int k' h) (y:=cap) rfl (by omega) h2,run_sliceBound (P:=P) (w:=w) (x:=.int k l) (y:=h.toNat) (code:=.sliceB) rfl h0 (by omega)]
theorem fG{isSlice:Bool}{len cap:Nat}{l h m:Int}{lo:Option Value}{k1 k2:IntKind}(BP:(lo=none∧l=0)∨∃k,lo=some (.int k l))
    (h0:0≤l) (h1:l≤h) (h2:h≤m) (h3:m≤cap) (w:World):
    (Instr.sliceBounds isSlice len cap lo (some (.int k1 h)) (some (.int k2 m))).run P w=.ok (l.toNat,h.toNat,m.toNat) w:=by
  unfold Instr.sliceBounds;rcases BP with⟨rfl,rfl⟩|⟨k,rfl⟩
  · simp[run_sliceBound (P:=P) (w:=w) (x:=.int k2 m) (y:=cap) rfl (by omega) h3,run_sliceBound (P:=P) (w:=w) (x:=.int k1 h) (y:=m.toNat) (code:=.slice3B) rfl (by omega) (by omega)]
  · simp[run_sliceBound (P:=P) (w:=w) (x:=.int k2 m) (y:=cap) rfl (by omega) h3,run_sliceBound (P:=P) (w:=w) (x:=.int k1 h) (y:=m.toNat) (code:=.slice3B) rfl (by omega) (by omega),
      run_sliceBound (P:=P) (w:=w) (x:=.int k l) (y:=h.toNat) (code:=.slice3C) rfl h0 (by omega)]
theorem eT{T e:TypeId}(hu:P.underlying T=some (.slice e))(x:Value)(lo hi mx:Option Value):(Instr.sliceAt T x lo hi mx).run P w=(Instr.slice T x lo hi mx).run P w:=by
  simp[Instr.sliceAt,run_underlying hu]
theorem xq{T:TypeId}(hu:P.underlying T=some .string)(x:Value)(lo hi mx:Option Value):(Instr.sliceAt T x lo hi mx).run P w=(Instr.slice T x lo hi mx).run P w:=by
  simp[Instr.sliceAt,run_underlying hu]
end Go.AM
namespace Go.AM
open Go Go.RowKit
variable{P:Program}{Γ:Nat→List AV}{G:Gh}{s:AS}{w:World}
theorem rm(b off l sz:Nat)(m:Nat)(sm:m=l∨m≠l):(if m=l then(some ⟨b,off,none⟩:Option Addr) else(some ⟨b,off,none⟩:Option Addr).map (·.add (l*sz)))=some ⟨b,if m=l then off else off+l*sz,none⟩:=by
  rcases sm with h|h<;>simp[h,cA]
theorem FM{T:TypeId}{x r:AV}{u:Value}{lo hi mx:Option AV}{RD aY mx':Option Value}(h:aslice P T x lo hi mx=some r)(hx:av G x u)
    (BP:kn G lo RD) (C9:kn G hi aY) (Iz:kn G mx mx'):
    ∃z,(Instr.sliceAt T u RD aY mx').run P w=.ok z w∧av G r z:=by
  unfold aslice at h
  split at h
  · -- a read-only slice
    rename_i e sz n cs sp hu
    simp only[av] at hx
    rcases hx with⟨b,off,cap,vs,rfl,hl,BQ,hv,qe,rn⟩|⟨rfl,rfl,a,cap,rfl,rn⟩|⟨rfl,rfl,rfl,rfl⟩
    case inr.inl=>
      split at h
      · rename_i l h' m o1 o2 o3
        split at h
        · rename_i hc
          obtain⟨c0,c1,c2,c3,c4,c5,c6⟩:=hc
          have uj:l=0:=by omega
          have hh0:h'=0:=by omega
          subst uj hh0
          cases h
          subst c5
          have q1:=bM o1 BP
          have q2:=bM o2 C9
          rw[eT hu]
          cases Iz with
          |none=>
            have hb:=cQ (P:=P) (isSlice:=true) (len:=0) (cap:=cap) q1 q2 (Int.le_refl 0) (Int.le_refl 0) (by omega) w
            refine⟨.slice (some a) 0 cap,?_,?_⟩
            · simp[Instr.slice,run_underlying hu,hb,aS c6,Addr.add]
            · simp only[av]
              refine .inr (.inl ⟨by simp,by simp,a,cap,rfl,?_⟩)
              rcases rn with rfl|rfl|⟨rfl,rfl⟩<;>simp
          |some hm=>
            rename_i ma mv
            have q3:=bM o3 (kn.some hm)
            obtain⟨k2,Da⟩:∃k,some mv=some (.int k m):=by
              rcases q3 with⟨q,_⟩|q
              · cases q
              · exact q
            have uk:m=0:=by have:=c3 rfl;omega
            subst uk
            cases Da
            have fj:∃k1,aY=some (.int k1 0):=by
              rcases q2 with⟨q,q'⟩|q
              · subst q
                cases C9
                exact absurd (c4 rfl) (by simp)
              · exact q
            obtain⟨k1,rfl⟩:=fj
            have hb:=fG (P:=P) (isSlice:=true) (len:=0) (cap:=cap) (k1:=k1) (k2:=k2) q1 (Int.le_refl 0) (Int.le_refl 0) (Int.le_refl 0) (by omega) w
            refine⟨.slice (some a) 0 0,?_,?_⟩
            · simp[Instr.slice,run_underlying hu,hb,aS c6,Addr.add]
            · simp only[av]
              refine .inr (.inl ⟨by simp,by simp,a,0,rfl,?_⟩)
              rcases rn with rfl|rfl|⟨rfl,rfl⟩<;>simp
        · cases h
      · cases h
    case inr.inr=>
      split at h
      · rename_i l h' m o1 o2 o3
        split at h
        · rename_i hc
          obtain⟨c0,c1,c2,c3,c4,c5,c6⟩:=hc
          have uj:l=0:=by omega
          have hh0:h'=0:=by omega
          subst uj hh0
          cases h
          subst c5
          have q1:=bM o1 BP
          have q2:=bM o2 C9
          rw[eT hu]
          refine⟨.slice none 0 0,?_,by simp only[av];exact .inr (.inr ⟨by simp,by simp,by simp,by simp⟩)⟩
          cases Iz with
          |none=>
            have hb:=cQ (P:=P) (isSlice:=true) (len:=0) (cap:=0) q1 q2 (Int.le_refl 0) (Int.le_refl 0) (Int.le_refl 0) w
            simp[Instr.slice,run_underlying hu,hb,aS c6]
          |some hm=>
            rename_i ma mv
            have q3:=bM o3 (kn.some hm)
            obtain⟨k2,Da⟩:∃k,some mv=some (.int k m):=by
              rcases q3 with⟨q,_⟩|q
              · cases q
              · exact q
            have uk:m=0:=by have:=c3 rfl;omega
            subst uk
            cases Da
            have fj:∃k1,aY=some (.int k1 0):=by
              rcases q2 with⟨q,q'⟩|q
              · subst q
                cases C9
                exact absurd (c4 rfl) (by simp)
              · exact q
            obtain⟨k1,rfl⟩:=fj
            have hb:=fG (P:=P) (isSlice:=true) (len:=0) (cap:=0) (k1:=k1) (k2:=k2) q1 (Int.le_refl 0) (Int.le_refl 0) (Int.le_refl 0) (Int.le_refl 0) w
            simp[Instr.slice,run_underlying hu,hb,aS c6]
        · cases h
      · cases h
    split at h
    · rename_i l h' m o1 o2 o3
      split at h
      · rename_i hc
        obtain⟨c0,c1,c2,c3,c4,c5,c6⟩:=hc
        cases h
        subst c5
        have q1:=bM o1 BP
        have q2:=bM o2 C9
        have hlen:=hv.length
        have iF:((cs.take (h'.toNat*P.cellsOf e)).drop (l.toNat*P.cellsOf e)).length=(h'.toNat-l.toNat)*P.cellsOf e:=by
          have :h'.toNat*P.cellsOf e≤n*P.cellsOf e:=Nat.mul_le_mul_right _ (by omega)
          simp only[List.length_drop,List.length_take,hl,Nat.sub_mul]
          omega
        have xgr:l.toNat≤h'.toNat:=by omega
        rw[eT hu]
        cases Iz with
        |none=>
          have hb:=cQ (P:=P) (isSlice:=true) (len:=n) (cap:=cap) q1 q2 c0 c1 (by omega) w
          refine⟨.slice (some ⟨b,if cap=l.toNat then off else off+l.toNat*P.cellsOf e,none⟩) (h'.toNat-l.toNat) (cap-l.toNat),?_,?_⟩
          · simp only[Instr.slice,Sem.run_bind,run_underlying hu,Result.andThen_ok,hb,aS c6,Sem.run_pure]
            rw[rm _ _ _ _ _ (Decidable.em _)]
          · simp only[av]
            refine .inl ⟨b,_,_,(vs.take (h'.toNat*P.cellsOf e)).drop (l.toNat*P.cellsOf e),rfl,iF,by omega,(hv.take _).drop _,?_,?_⟩
            · by_cases gu:cap=l.toNat
              · rw[if_pos gu]
                have :(vs.take (h'.toNat*P.cellsOf e)).drop (l.toNat*P.cellsOf e)=[]:=by
                  apply List.drop_eq_nil_of_le
                  have :h'.toNat*P.cellsOf e≤l.toNat*P.cellsOf e:=Nat.mul_le_mul_right _ (by omega)
                  simp only[List.length_take];omega
                rw[this]
                intro j u hj;simp at hj
              · rw[if_neg gu];exact(qe.take _).drop _
            · simp only[Option.isSome_none,Bool.false_eq_true,if_false]
              by_cases hn:h'=(n:Int)
              · have hn':h'.toNat=n:=by omega
                cases sp with
                |no=>exact True.intro
                |any=>exact True.intro
                |full=>simp only[if_pos hn];simp only[ep] at rn⊢;omega
                |new=>simp only[if_pos hn];simp only[ep] at rn⊢;exact⟨by omega,rn.2⟩
                |own t g=>
                  simp only[if_pos hn]
                  by_cases uj:l=0
                  · subst uj
                    rw[if_pos rfl]
                    simp only[ep] at rn⊢
                    rw[hn',rn]
                    by_cases Np:cap=(0:Int).toNat<;>simp[Np]
                  · rw[if_neg uj];exact True.intro
              · cases sp<;>first |exact True.intro|(simp only[if_neg hn];exact True.intro)
        |some hm=>
          rename_i ma mv
          have q3:=bM o3 (kn.some hm)
          have hhm:h'=m:=c3 rfl
          subst hhm
          obtain⟨k2,Da⟩:∃k,some mv=some (.int k h'):=by
            rcases q3 with⟨q,_⟩|q
            · cases q
            · exact q
          cases Da
          have fj:∃k1,aY=some (.int k1 h'):=by
            rcases q2 with⟨q,q'⟩|q
            · subst q
              cases C9
              exact absurd (c4 rfl) (by simp)
            · exact q
          obtain⟨k1,rfl⟩:=fj
          have hb:=fG (P:=P) (isSlice:=true) (len:=n) (cap:=cap) (k1:=k1) (k2:=k2) q1 c0 c1 (Int.le_refl h') (by omega) w
          refine⟨.slice (some ⟨b,if h'.toNat=l.toNat then off else off+l.toNat*P.cellsOf e,none⟩) (h'.toNat-l.toNat) (h'.toNat-l.toNat),?_,?_⟩
          · simp only[Instr.slice,Sem.run_bind,run_underlying hu,Result.andThen_ok,hb,aS c6,Sem.run_pure]
            rw[rm _ _ _ _ _ (Decidable.em _)]
          · simp only[av]
            refine .inl ⟨b,_,_,(vs.take (h'.toNat*P.cellsOf e)).drop (l.toNat*P.cellsOf e),rfl,iF,by omega,(hv.take _).drop _,?_,?_⟩
            · by_cases gu:h'.toNat=l.toNat
              · rw[if_pos gu]
                have :(vs.take (h'.toNat*P.cellsOf e)).drop (l.toNat*P.cellsOf e)=[]:=by
                  apply List.drop_eq_nil_of_le
                  simp only[List.length_take,gu];omega
                rw[this]
                intro j u hj;simp at hj
              · rw[if_neg gu];exact(qe.take _).drop _
            · cases sp<;>simp[ep]
      · cases h
    · cases h
  · -- nil
    rename_i e hu
    simp only[av] at hx
    subst hx
    split at h
    · rename_i l h' m o1 o2 o3
      split at h
      · rename_i hc
        obtain⟨rfl,rfl,rfl,c6,c4⟩:=hc
        cases h
        have q1:=bM o1 BP
        have q2:=bM o2 C9
        rw[eT hu]
        refine⟨.slice none 0 0,?_,by simp[av]⟩
        cases Iz with
        |none=>
          have hb:=cQ (P:=P) (isSlice:=true) (len:=0) (cap:=0) q1 (by simpa using q2) (Int.le_refl 0) (Int.le_refl 0) (Int.le_refl 0) w
          simp[Instr.slice,run_underlying hu,hb,aS c6]
        |some hm=>
          rename_i ma mv
          have q3:=bM o3 (kn.some hm)
          obtain⟨k2,Da⟩:∃k,some mv=some (.int k 0):=by
            rcases q3 with⟨q,_⟩|q
            · cases q
            · exact q
          cases Da
          have fj:∃k1,aY=some (.int k1 0):=by
            rcases q2 with⟨q,q'⟩|q
            · subst q
              cases C9
              exact absurd (c4 rfl) (by simp)
            · exact q
          obtain⟨k1,rfl⟩:=fj
          have hb:=fG (P:=P) (isSlice:=true) (len:=0) (cap:=0) (k1:=k1) (k2:=k2) q1 (Int.le_refl 0) (Int.le_refl 0) (Int.le_refl 0) (Int.le_refl 0) w
          simp[Instr.slice,run_underlying hu,hb,aS c6]
      · cases h
    · cases h
  · -- a slice of an object
    rename_i e o off sz n cap hu
    simp only[av] at hx
    obtain⟨b,ho,rfl,BQ⟩:=hx
    split at h
    · rename_i l h' o1 o2
      cases Iz
      split at h
      · rename_i hc
        obtain⟨c0,c1,c2,rfl,c6⟩:=hc
        cases h
        have q1:=bM o1 BP
        have q2:=bM o2 C9
        rw[eT hu]
        have hb:=cQ (P:=P) (isSlice:=true) (len:=n) (cap:=cap) q1 q2 c0 c1 c2 w
        refine⟨.slice (some ⟨b,if cap=l.toNat then off else off+l.toNat*P.cellsOf e,none⟩) (h'.toNat-l.toNat) (cap-l.toNat),?_,?_⟩
        · simp only[Instr.slice,Sem.run_bind,run_underlying hu,Result.andThen_ok,hb,aS c6,Sem.run_pure]
          rw[rm _ _ _ _ _ (Decidable.em _)]
        · simp only[av]
          refine⟨b,ho,?_,by omega⟩
          by_cases gu:cap=l.toNat
          · rw[if_pos gu,if_pos (by omega)]
          · rw[if_neg gu,if_neg (by omega)]
      · cases h
    · cases h
  · -- an array's address
    rename_i n e o off hu
    simp only[av] at hx
    obtain⟨b,ho,rfl⟩:=hx
    split at h
    · rename_i l h' o1 o2
      cases Iz
      split at h
      · rename_i hc
        obtain⟨c0,c1,c2,c6⟩:=hc
        cases h
        have q1:=bM o1 BP
        have q2:=bM o2 C9
        have hb:=cQ (P:=P) (isSlice:=false) (len:=n) (cap:=n) q1 q2 c0 c1 c2 w
        refine⟨.slice (some ⟨b,if n=l.toNat then off else off+l.toNat*P.cellsOf e,none⟩) (h'.toNat-l.toNat) (n-l.toNat),?_,?_⟩
        · simp only[Instr.sliceAt,Sem.run_bind,run_underlying hu,Result.andThen_ok,Instr.sureAddr,Sem.run_pure,hb,aS c6]
          by_cases gu:n=l.toNat
          · simp[gu]
          · simp[gu,cA]
        · simp only[av]
          refine⟨b,ho,?_,by omega⟩
          by_cases gu:n=l.toNat
          · rw[if_pos gu,if_pos (by omega)]
          · rw[if_neg gu,if_neg (by omega)]
      · cases h
    · cases h
  · -- a string
    rename_i b hu
    simp only[av] at hx
    subst hx
    split at h
    · rename_i l h' o1 o2
      cases Iz
      split at h
      · rename_i hc
        obtain⟨c0,c1,c2⟩:=hc
        cases h
        have q1:=bM o1 BP
        have q2:=bM o2 C9
        rw[xq hu]
        have hb:=cQ (P:=P) (isSlice:=false) (len:=b.size) (cap:=b.size) q1 q2 c0 c1 c2 w
        exact⟨.string (b.extract l.toNat h'.toNat),by simp[Instr.slice,run_underlying hu,hb],by simp[av]⟩
      · cases h
    · cases h
  · cases h
theorem BR{b:Builtin}{argTypes:Array TypeId}{args:List AV}{vs:List Value}{T:TypeId}{consts:Array Bool}{r:AV}(h:abuiltin P b argTypes args=some r)(hv:au G args vs):
    ∃z,(builtin b argTypes T consts vs.toArray).run P w=.ok (.value z) w∧av G r z:=by
  unfold abuiltin at h;split at h
  · rename_i x;simp only[au] at hv;obtain⟨u,us,rfl,hx,rfl⟩:=hv;split at h
    · rename_i e sz n cs sp hu;obtain⟨t,ht,hu⟩:=Option.bind_eq_some_iff.1 hu;simp only[av] at hx;cases h;rcases hx with⟨b,off,cap,vs,rfl,_⟩|⟨rfl,rfl,a,cap,rfl,_⟩|⟨rfl,rfl,rfl,rfl⟩
      · exact⟨.int .i64 n,by simp[builtin,Builtin.len_,ht,run_underlying hu,goInt],by simp[av]⟩
      · exact⟨.int .i64 0,by simp[builtin,Builtin.len_,ht,run_underlying hu,goInt],by simp[av]⟩
      · exact⟨.int .i64 0,by simp[builtin,Builtin.len_,ht,run_underlying hu,goInt],by simp[av]⟩
    · rename_i e o off sz n cap hu;obtain⟨t,ht,hu⟩:=Option.bind_eq_some_iff.1 hu;simp only[av] at hx;obtain⟨b,_,rfl,_⟩:=hx;cases h;exact⟨.int .i64 n,by simp[builtin,Builtin.len_,ht,run_underlying hu,goInt],by simp[av]⟩
    · rename_i e n cap hu;obtain⟨t,ht,hu⟩:=Option.bind_eq_some_iff.1 hu;simp only[av] at hx;subst hx;cases h;exact⟨.int .i64 n,by simp[builtin,Builtin.len_,ht,run_underlying hu,goInt],by simp[av]⟩
    · rename_i b hu;obtain⟨t,ht,hu⟩:=Option.bind_eq_some_iff.1 hu;simp only[av] at hx;subst hx;cases h;exact⟨.int .i64 b.size,by simp[builtin,Builtin.len_,ht,run_underlying hu,goInt],by simp[av]⟩
    · rename_i n e hu;obtain⟨t,ht,hu⟩:=Option.bind_eq_some_iff.1 hu;cases h;exact⟨.int .i64 n,by simp[builtin,Builtin.len_,ht,run_underlying hu,goInt],by simp[av]⟩
    · cases h
  · rename_i x;simp only[au] at hv;obtain⟨u,us,rfl,hx,rfl⟩:=hv;split at h
    · rename_i e o off sz n cap hu;obtain⟨t,ht,hu⟩:=Option.bind_eq_some_iff.1 hu;simp only[av] at hx;obtain⟨b,_,rfl,_⟩:=hx;cases h;exact⟨.int .i64 cap,by simp[builtin,Builtin.cap_,ht,run_underlying hu,goInt],by simp[av]⟩
    · rename_i e n cap hu;obtain⟨t,ht,hu⟩:=Option.bind_eq_some_iff.1 hu;simp only[av] at hx;subst hx;cases h;exact⟨.int .i64 cap,by simp[builtin,Builtin.cap_,ht,run_underlying hu,goInt],by simp[av]⟩
    · rename_i e sz n cs hu;obtain⟨t,ht,hu⟩:=Option.bind_eq_some_iff.1 hu;simp only[av,ep] at hx;cases h;rcases hx with⟨b,off,cap,vs,rfl,_,_,_,_,rfl⟩|⟨rfl,rfl,a,cap,rfl,rn⟩|⟨_,_,rn,_⟩
      · exact⟨.int .i64 _,by simp[builtin,Builtin.cap_,ht,run_underlying hu,goInt];rfl,by simp[av]⟩
      · obtain rfl:cap=0:=(by simpa using rn);exact⟨.int .i64 0,by simp[builtin,Builtin.cap_,ht,run_underlying hu,goInt],by simp[av]⟩
      · simp at rn
    · rename_i e sz n cs hu;obtain⟨t,ht,hu⟩:=Option.bind_eq_some_iff.1 hu;simp only[av,ep] at hx;rcases hx with⟨b,off,cap,vs,rfl,_,_,_,_,rfl,_⟩|⟨_,_,a,cap,_,hm⟩|⟨_,_,hm,_⟩;case inr.inl=>rcases hm with hm|hm|⟨hm,_⟩<;>cases hm
      case inr.inr=>cases hm
      cases h;exact⟨.int .i64 _,by simp[builtin,Builtin.cap_,ht,run_underlying hu,goInt];rfl,by simp[av]⟩
    · cases h
  · rename_i k x k' y;simp only[au,av] at hv;obtain⟨u,us,rfl,rfl,v,v8,rfl,rfl,rfl⟩:=hv;split at h
    · rename_i hk;cases h;exact⟨_,by simp[builtin,Builtin.min_,Builtin.min2];rfl,by simp[av]⟩
    · cases h
  · rename_i k x k' y;simp only[au,av] at hv;obtain⟨u,us,rfl,rfl,v,v8,rfl,rfl,rfl⟩:=hv;split at h
    · rename_i hk;cases h;exact⟨_,by simp[builtin,Builtin.max_,Builtin.max2];rfl,by simp[av]⟩
    · cases h
  · cases h
end Go.AM
namespace Go.AM
open Go Go.RowKit
variable{P:Program}{Γ:Nat→List AV}{G:Gh}{s:AS}{w:World}
def nI(cells:List Value)(off:Nat):List Value→List Value
  |[]=>cells
  |x::xs=>nI (cells.set off x) (off+1) xs
theorem pt:∀(xs cells:List AV)(off:Nat),(bn cells off xs).length=cells.length
  |[],_,_=>rfl
  |x::xs,cells,off=>by simp[bn,pt xs]
theorem AE:∀(us:List Value)(cells:Array Value)(off k:Nat),
    (us.zipIdx k).foldl (fun cs(p:Value×Nat)=>cs.setIfInBounds (off+p.2) p.1) cells=(nI cells.toList (off+k) us).toArray
  |[],cells,off,k=>by simp[nI]
  |u::us,cells,off,k=>by
    simp only[List.zipIdx_cons,List.foldl_cons,nI];rw[AE us];simp[Nat.add_assoc]
theorem au.J4:∀{ds:List AV}{us:List Value}{cs:List AV}{vs:List Value}(off:Nat),au G cs vs→au G ds us→au G (bn cs off ds) (nI vs off us)
  |[],us,cs,vs,off,h,k=>by simp only[au] at k;subst k;simpa[bn,nI] using h
  |d::ds,us,cs,vs,off,h,k=>by
    simp only[au] at k;obtain⟨u,v8,rfl,h2,h3⟩:=k;simp only[bn,nI];exact au.J4 (off+1) (h.set off h2) h3
inductive eK(G:Gh):List (Nat×AV)→List (Nat×Value)→Prop
  |nil:eK G [] []
  |cons (i:Nat) {a:AV} {v:Value} {as:List (Nat×AV)} {vs:List (Nat×Value)}:av G a v→eK G as vs→eK G ((i,a)::as) ((i,v)::vs)
theorem eK.of_map{ρ:Operand→AV}{ρ':Operand→Value}(h:∀x,av G (ρ x) (ρ' x)):∀(l:List (Nat×Operand)),eK G (l.map fun p=>(p.1,ρ p.2)) (l.map fun p=>(p.1,ρ' p.2))
  |[]=>.nil
  |(i,x)::l=>.cons _ (h x) (eK.of_map h l)
theorem jn(place:Nat→Option (Nat×Nat)):∀{ps:List (Nat×AV)}{qs:List (Nat×Value)}{cs cs':List AV}{vs:List Value},iM place cs ps=some cs'→eK G ps qs→au G cs vs→
    ∃Nn:List Value,Instr.fill place vs.toArray qs=some Nn.toArray∧au G cs' Nn
  |[],qs,cs,cs',vs,h,hp,hv=>by
    cases hp;simp[iM] at h;subst h;exact⟨vs,by simp[Instr.fill],hv⟩
  |(_,a)::ps,qs,cs,cs',vs,h,hp,hv=>by
    cases hp with
    |cons _ ha hp=>
      rename_i v qs;unfold iM at h;split at h
      · cases h
      · rename_i off size AF;split at h
        · cases h
        · rename_i hc;have ko:=lz ha;have Qk:=ko.length;have BM:=hv.length;have IA:v.cells.toList.length=v.cells.size:=(by simp);obtain⟨Nn,h1,h2⟩:=jn place h hp (hv.J4 off ko);refine⟨Nn,?_,h2⟩;simp only[Instr.fill,AF];rw[if_neg]
          · rw[←h1];congr 1;have:=AE v.cells.toList vs.toArray off 0;rw[←Array.foldl_toList,Array.toList_zipIdx];exact this
          · simp only[not_or,Nat.not_lt,ne_eq,Classical.not_not,Bool.or_eq_true,decide_eq_true_eq] at hc⊢;refine⟨by omega,?_⟩;simp only[List.size_toArray];omega
theorem dA{t:TypeId}{z:List AV}(h:bq P t=some z):∃v,(∀w,(zeroValue t).run P w=.ok v w)∧z=v.cells.toList.map .v:=by
  unfold bq at h;cases hi:P.info? t with
  |none=>simp[hi] at h
  |some i=>
    simp[hi] at h;obtain⟨v,h1,h2⟩:=h;exact⟨v,fun w=>by simp[zeroValue,typeInfo,hi,h1],h2.symm⟩
theorem we(fs:Array Field)(bT:fs.all (fun f=>(P.info? f.type).isSome)=true)(w:World):
    (fs.mapM fun f=>(do pure (f.offset,←sizeOf f.type):Sem (Nat×Nat))).run P w=.ok (fs.map fun f=>(f.offset,P.cellsOf f.type)) w:=by
  have key:∀(l:List Field),(∀f∈l,(P.info? f.type).isSome=true)→(l.mapM fun f=>(do pure (f.offset,←sizeOf f.type):Sem (Nat×Nat))).run P w=.ok (l.map fun f=>(f.offset,P.cellsOf f.type)) w:=by
    intro l;induction l with
    |nil=>intro _;simp
    |cons f l ih=>
      intro hl;simp only[List.mapM_cons,Sem.run_bind,wc (hl f (by simp)),Result.andThen_ok,Sem.run_pure,ih (fun g hg=>hl g (by simp[hg]))];simp
  rw[Array.mapM_eq_mapM_toList];simp only[Sem.run_map];rw[key fs.toList (fun f hf=>by
    rw[Array.all_eq_true_iff_forall_mem] at bT;exact bT f (by simpa using hf))]
  simp only[Result.andThen_ok];congr 1;apply Array.ext';simp
theorem run_build{T:TypeId}{parts:List (Nat×AV)}{qs:Array (Nat×Value)}{r:AV}
    (h:(match P.underlying T,bq P T with
      |some (.struct _),some z=>
        if fh P T=true then(iM (placeOf P T) z parts).map .agg else none
      |some (.array _ e),some z=>if P.cellsOf e=0 then none else(iM (fun i=>some (i*P.cellsOf e,P.cellsOf e)) z parts).map .agg
      |_,_=>none)=some r) (hp:eK G parts qs.toList):
    ∃v,(Instr.build T qs).run P w=.ok v w∧av G r v:=by
  split at h
  · rename_i fs z hu hz;obtain⟨v,hv,rfl⟩:=dA hz;split at h
    · rename_i bT;have bT:fs.all (fun f=>(P.info? f.type).isSome)=true:=(by simpa[fh,hu] using bT);have RG:placeOf P T=fun(i:Nat)=>(fs[i]?).map fun(f:Field)=>(f.offset,P.cellsOf f.type):=by
        funext i;simp only[placeOf,bX,hu];cases fs[i]? <;>rfl
      rw[RG] at h;simp only[Option.map_eq_some_iff] at h;obtain⟨cs,h1,rfl⟩:=h;obtain⟨vs,h2,h3⟩:=jn _ h1 hp (au.Dk (G:=G) v.cells.toList);refine⟨.agg vs.toArray,?_,by simp only[av];exact⟨vs,rfl,h3⟩⟩;have e:(fun(i:Nat)=>(fs.map fun(f:Field)=>(f.offset,P.cellsOf f.type))[i]?)=fun(i:Nat)=>(fs[i]?).map fun(f:Field)=>(f.offset,P.cellsOf f.type):=by
        funext i;simp
      simp only[Instr.build,Sem.run_bind,hv,Result.andThen_ok,run_underlying hu,we fs bT];simp only[Array.toArray_toList] at h2;simp only[e,h2];rfl
    · cases h
  · rename_i n e z hu hz;obtain⟨v,hv,rfl⟩:=dA hz;split at h
    · cases h
    · rename_i dK;simp only[Option.map_eq_some_iff] at h;obtain⟨cs,h1,rfl⟩:=h;obtain⟨vs,h2,h3⟩:=jn _ h1 hp (au.Dk (G:=G) v.cells.toList);refine⟨.agg vs.toArray,?_,by simp only[av];exact⟨vs,rfl,h3⟩⟩;simp only[Array.toArray_toList] at h2;simp[Instr.build,hv,run_underlying hu,aS dK,h2]
  · cases h
theorem rp{z:List Value}(n:Nat)(hz:z≠[]):au G (oV n (z.map .v)) ((List.range n).map fun i=>z.toArray[i%z.toArray.size]!):=by
  have key:∀(l:List Nat),au G (l.map fun i=>(z.map AV.v).getD (i%(z.map AV.v).length) (.v default)) (l.map fun i=>z.toArray[i%z.toArray.size]!):=by
    intro l;induction l with
    |nil=>simp[au]
    |cons i l ih=>
      simp only[List.map_cons,au];refine⟨_,_,rfl,?_,ih⟩;have bJ:i%z.length<z.length:=Nat.mod_lt _ (List.length_pos_iff.2 hz);simp[av,bJ,List.getD]
  exact key _
theorem wg(hs:aP Γ G s w){T:TypeId}{len:Nat}{parts:List (Nat×AV)}{qs:Array (Nat×Value)}{r:AV}
    (h:(match P.underlying T with
      |some (.slice e)=>
        match bq P e with
        |some z=>
          if P.cellsOf e=0∨len*P.cellsOf e>2^24∨z.length≠P.cellsOf e then none else
          (iM (fun i=>some (i*P.cellsOf e,P.cellsOf e)) (oV (len*P.cellsOf e) z) parts).map fun cs=>.sl (P.cellsOf e) len cs .new
        |none=>none
      |_=>none)=some r) (hp:eK G parts qs.toList):
    ∃G' v w',(Instr.buildSlice T len qs).run P w=.ok v w'∧G.le G'∧aP Γ G' s w'∧av G' r v:=by
  split at h
  · rename_i e hu;split at h
    · rename_i z hz;obtain⟨v,hv,rfl⟩:=dA hz;split at h
      · cases h
      · rename_i hc;simp only[not_or,ne_eq,Classical.not_not,Nat.not_lt,gt_iff_lt] at hc;obtain⟨c1,c2,c3⟩:=hc;simp only[Option.map_eq_some_iff] at h;obtain⟨cs,h1,rfl⟩:=h;have dK:v.cells.toList≠[]:=by
          intro e';rw[e'] at c3;simp at c3;omega
        obtain⟨vs,h2,h3⟩:=jn (G:=G) _ h1 hp (rp (len*P.cellsOf e) dK);have hlen:cs.length=len*P.cellsOf e:=by
          have :∀{place:Nat→Option (Nat×Nat)}{ps:List (Nat×AV)}{cs cs':List AV},iM place cs ps=some cs'→cs'.length=cs.length:=by
            intro place ps;induction ps with
            |nil=>intro cs cs' h;simp[iM] at h;simp[h]
            |cons p ps ih=>
              obtain⟨i,a⟩:=p;intro cs cs' h;unfold iM at h;split at h
              · cases h
              · split at h
                · cases h
                · rw[ih h,pt]
          rw[this h1];simp[oV]
        obtain⟨hle,hS⟩:=hs.Qi vs vs.toArray e (fun j u hj=>by simpa using hj);refine⟨_,.slice (some ⟨w.heap.size,0,none⟩) len len,_,?_,hle,hS,?_⟩
        · simp only[Instr.buildSlice,Sem.run_bind,run_underlying hu,Result.andThen_ok,aS c1];rw[if_neg (by omega)];by_cases h0:len*P.cellsOf e=0
          · have ko:(Array.range (len*P.cellsOf e)).map (fun i=>(#[]:Array Value)[i%(#[]:Array Value).size]!)=((List.range (len*P.cellsOf e)).map fun i=>v.cells.toList.toArray[i%v.cells.toList.toArray.size]!).toArray:=by
              rw[h0];simp
            rw[if_pos h0];simp only[Sem.run_bind,Sem.run_pure,Result.andThen_ok,ko,h2];simp[newRow]
          · have ko:(Array.range (len*P.cellsOf e)).map (fun i=>v.cells[i%v.cells.size]!)=((List.range (len*P.cellsOf e)).map fun i=>v.cells.toList.toArray[i%v.cells.toList.toArray.size]!).toArray:=by
              apply Array.ext';simp
            rw[if_neg h0];simp only[Sem.run_bind,hv,Sem.run_pure,Result.andThen_ok,ko,h2];simp[newRow]
        · simp only[av];exact .inl ⟨w.heap.size,0,len,vs,rfl,hlen,Nat.le_refl _,au.mono hle _ _ h3,gp.added G w.heap.size 0 vs,rfl,hs.base⟩
    · cases h
  · cases h
end Go.AM
