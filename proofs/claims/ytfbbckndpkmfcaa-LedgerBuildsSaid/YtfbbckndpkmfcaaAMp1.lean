/- An abstract machine for the model: abstract values, their relation to worlds, and the rules of its walk, each proved sound over the model; no condition. -/
import Derived.Orders
import Derived.Below
import Derived.Maps.RangeRun
import Derived.Laws.Entries
import Derived.ChangeKeysEq
import Derived.Laws.StructEq
import Derived.Laws.Append
import Derived.Laws.BytesArg
import Derived.Laws.NewFold
import Derived.Laws.Build
set_option linter.unusedSimpArgs false
set_option linter.unusedVariables false
set_option autoImplicit false
namespace Go.AM
open Go Go.RowKit
inductive Sp where
  | new
  | no
  | full
  | own (t e : Nat)
  | any
def Sp.isAny : Sp→Bool
  | .any=>true
  | .new=>false
  | .no=>false
  | .full=>false
  | .own _ _=>false
inductive AV where
  | v (x : Value)
  | sl (sz n : Nat) (cs : List AV) (sp : Sp)
  | rop (cs : List AV)
  | ptr (o off : Nat)
  | osl (o off sz n cap : Nat)
  | agg (cs : List AV)
  | tup (cs : List AV)
  | clo (f : FuncId) (caps : List AV)
structure Gh where
  ro : Nat→Nat→Option Value
  obj : Nat→Option Nat
  tok : Nat→Nat→Option (Nat × Nat × Nat)
  no : Nat
  nt : Nat
  B : Nat
  w0 : World
  df : List Deferred
structure Gh.le (G G' : Gh) : Prop where
  ro : ∀ b j u,G.ro b j = some u→G'.ro b j = some u
  obj : ∀ o b,G.obj o = some b→G'.obj o = some b
  tok : ∀ t e r,G.tok t e = some r→G'.tok t e = some r
  B : G'.B = G.B
  w0 : G'.w0 = G.w0
  df : G'.df = G.df
theorem Gh.le.refl (G : Gh) : G.le G:=⟨fun _ _ _ h=>h,fun _ _ h=>h,fun _ _ _ h=>h,rfl,rfl,rfl⟩
theorem Gh.le.trans {a b c : Gh} (h : a.le b) (k : b.le c) : a.le c :=
  ⟨fun _ _ _ x=>k.ro _ _ _ (h.ro _ _ _ x),fun _ _ x=>k.obj _ _ (h.obj _ _ x),fun _ _ _ x=>k.tok _ _ _ (h.tok _ _ _ x),k.B.trans h.B,k.w0.trans h.w0,k.df.trans h.df⟩
def RoAt (G : Gh) (b off : Nat) (vs : List Value) : Prop:=∀ j u,vs[j]? = some u→G.ro b (off + j) = some u
def SpRel (G : Gh) (b off sz n cap : Nat) : Sp→Prop
  | .no=>True
  | .any=>True
  | .full=>cap = n
  | .new=>cap = n∧G.B≤b
  | .own t e=>G.tok t e = some (b,off + n * sz,off + cap * sz)
mutual
def VRel (G : Gh) : AV→Value→Prop
  | .v x,y=>y = x
  | .sl sz n cs sp,y=>(∃ b off cap vs,y = .slice (some ⟨b,off,none⟩) n cap∧cs.length = n * sz∧n≤cap∧VRels G cs vs∧RoAt G b off vs∧SpRel G b off sz n cap sp) ∨
      (n = 0∧cs = []∧∃ a cap,y = .slice (some a) 0 cap∧(sp = .no∨sp = .any∨(sp = .full∧cap = 0))) ∨
      (n = 0∧cs = []∧sp = .any∧y = .slice none 0 0)
  | .rop cs,y=>∃ b off vs,y = .pointer (some ⟨b,off,none⟩)∧VRels G cs vs∧RoAt G b off vs
  | .ptr o off,y=>∃ b,G.obj o = some b∧y = .pointer (some ⟨b,off,none⟩)
  | .osl o off _ n cap,y=>∃ b,G.obj o = some b∧y = .slice (some ⟨b,off,none⟩) n cap∧n≤cap
  | .agg cs,y=>∃ vs : List Value,y = .agg vs.toArray∧VRels G cs vs
  | .tup cs,y=>∃ vs : List Value,y = .tuple vs.toArray∧VRels G cs vs
  | .clo f caps,y=>∃ vs : List Value,y = .func (.func f) #[] vs.toArray∧VRels G caps vs
def VRels (G : Gh) : List AV→List Value→Prop
  | [],vs=>vs = []
  | c :: cs,vs=>∃ u us,vs = u :: us∧VRel G c u∧VRels G cs us
end
theorem RoAt.mono {G G' : Gh} (h : G.le G') {b off : Nat} {vs : List Value} (k : RoAt G b off vs) : RoAt G' b off vs :=
  fun j u hj=>h.ro _ _ _ (k j u hj)
theorem SpRel.mono {G G' : Gh} (h : G.le G') {b off sz n cap : Nat} {sp : Sp} (k : SpRel G b off sz n cap sp) : SpRel G' b off sz n cap sp:=by
  cases sp with
  | no=>trivial
  | any=>trivial
  | full=>exact k
  | new=>exact ⟨k.1,by rw [h.B]; exact k.2⟩
  | own t e=>exact h.tok _ _ _ k
mutual
theorem VRel.mono {G G' : Gh} (h : G.le G') : ∀ (c : AV) (u : Value),VRel G c u→VRel G' c u
  | .v x,u,k=>by simpa [VRel] using k
  | .sl sz n cs sp,u,k=>by
    simp only [VRel] at k ⊢
    rcases k with ⟨b,off,cap,vs,h1,h2,h3,h4,h5,h6⟩ | k
    · exact .inl ⟨b,off,cap,vs,h1,h2,h3,VRels.mono h cs vs h4,h5.mono h,h6.mono h⟩
    · exact .inr k
  | .rop cs,u,k=>by
    simp only [VRel] at k ⊢
    obtain ⟨b,off,vs,h1,h4,h5⟩:=k
    exact ⟨b,off,vs,h1,VRels.mono h cs vs h4,h5.mono h⟩
  | .ptr o off,u,k=>by
    simp only [VRel] at k ⊢
    obtain ⟨b,h1,h2⟩:=k
    exact ⟨b,h.obj _ _ h1,h2⟩
  | .osl o off sz n cap,u,k=>by
    simp only [VRel] at k ⊢
    obtain ⟨b,h1,h2⟩:=k
    exact ⟨b,h.obj _ _ h1,h2⟩
  | .agg cs,u,k=>by
    simp only [VRel] at k ⊢
    obtain ⟨vs,h1,h2⟩:=k
    exact ⟨vs,h1,VRels.mono h cs vs h2⟩
  | .tup cs,u,k=>by
    simp only [VRel] at k ⊢
    obtain ⟨vs,h1,h2⟩:=k
    exact ⟨vs,h1,VRels.mono h cs vs h2⟩
  | .clo f cs,u,k=>by
    simp only [VRel] at k ⊢
    obtain ⟨vs,h1,h2⟩:=k
    exact ⟨vs,h1,VRels.mono h cs vs h2⟩
theorem VRels.mono {G G' : Gh} (h : G.le G') : ∀ (cs : List AV) (us : List Value),VRels G cs us→VRels G' cs us
  | [],us,k=>by simpa [VRels] using k
  | c :: cs,us,k=>by
    simp only [VRels] at k ⊢
    obtain ⟨u,us',h1,h2,h3⟩:=k
    exact ⟨u,us',h1,VRel.mono h c u h2,VRels.mono h cs us' h3⟩
end
theorem VRels.length {G : Gh} : ∀ {cs : List AV} {vs : List Value},VRels G cs vs→cs.length = vs.length
  | [],vs,k=>by simp only [VRels] at k; simp [k]
  | c :: cs,vs,k=>by
    simp only [VRels] at k
    obtain ⟨u,us',rfl,h2,h3⟩:=k
    simp [VRels.length h3]
theorem VRels.get {G : Gh} : ∀ {cs : List AV} {vs : List Value},VRels G cs vs→∀ (i : Nat) (c : AV),cs[i]? = some c→∃ u,vs[i]? = some u∧VRel G c u
  | [],vs,k=>by simp
  | c :: cs,vs,k=>by
    simp only [VRels] at k
    obtain ⟨u,us',rfl,h2,h3⟩:=k
    intro i c' hi
    cases i with
    | zero=>simp at hi; subst hi; exact ⟨u,by simp,h2⟩
    | succ i=>simpa using VRels.get h3 i c' (by simpa using hi)
theorem VRels.getD {G : Gh} {cs : List AV} {vs : List Value} (h : VRels G cs vs) (i : Nat) (hi : i < cs.length) : ∃ u,vs[i]? = some u∧VRel G (cs.getD i (.v undef)) u:=by
  obtain ⟨u,h1,h2⟩:=h.get i (cs[i]) (by simp [hi])
  exact ⟨u,h1,by simpa [List.getD,hi] using h2⟩
theorem VRels.append {G : Gh} : ∀ {cs ds : List AV} {vs us : List Value},VRels G cs vs→VRels G ds us→VRels G (cs ++ ds) (vs ++ us)
  | [],ds,vs,us,h,k=>by simp only [VRels] at h; subst h; simpa using k
  | c :: cs,ds,vs,us,h,k=>by
    simp only [VRels] at h
    obtain ⟨u,us',rfl,h2,h3⟩:=h
    simp only [List.cons_append,VRels]
    exact ⟨u,us' ++ us,rfl,h2,VRels.append h3 k⟩
theorem VRels.take {G : Gh} : ∀ {cs : List AV} {vs : List Value} (n : Nat),VRels G cs vs→VRels G (cs.take n) (vs.take n)
  | [],vs,n,h=>by simp only [VRels] at h; subst h; simp [VRels]
  | c :: cs,vs,n,h=>by
    simp only [VRels] at h
    obtain ⟨u,us',rfl,h2,h3⟩:=h
    cases n with
    | zero=>simp [VRels]
    | succ n=>simp only [List.take_succ_cons,VRels]; exact ⟨u,_,rfl,h2,VRels.take n h3⟩
theorem VRels.drop {G : Gh} : ∀ {cs : List AV} {vs : List Value} (n : Nat),VRels G cs vs→VRels G (cs.drop n) (vs.drop n)
  | [],vs,n,h=>by simp only [VRels] at h; subst h; simp [VRels]
  | c :: cs,vs,n,h=>by
    cases n with
    | zero=>simpa using h
    | succ n =>
      simp only [VRels] at h
      obtain ⟨u,us',rfl,h2,h3⟩:=h
      simpa using VRels.drop n h3
theorem VRels.set {G : Gh} : ∀ {cs : List AV} {vs : List Value} (n : Nat) {c : AV} {u : Value},VRels G cs vs→VRel G c u→VRels G (cs.set n c) (vs.set n u)
  | [],vs,n,c,u,h,k=>by simp only [VRels] at h; subst h; simp [VRels]
  | x :: cs,vs,n,c,u,h,k=>by
    simp only [VRels] at h
    obtain ⟨y,us',rfl,h2,h3⟩:=h
    cases n with
    | zero=>simp only [List.set_cons_zero,VRels]; exact ⟨u,us',rfl,k,h3⟩
    | succ n=>simp only [List.set_cons_succ,VRels]; exact ⟨y,_,rfl,h2,VRels.set n h3 k⟩
theorem VRels.replicate {G : Gh} (n : Nat) (x : Value) : VRels G (List.replicate n (.v x)) (List.replicate n x):=by
  induction n with
  | zero=>simp [VRels]
  | succ n ih=>simp only [List.replicate_succ,VRels]; exact ⟨x,_,rfl,by simp [VRel],ih⟩
theorem VRels.vals {G : Gh} : ∀ (l : List Value),VRels G (l.map .v) l
  | []=>by simp [VRels]
  | x :: l=>by simp only [List.map_cons,VRels]; exact ⟨x,l,rfl,by simp [VRel],VRels.vals l⟩
inductive MO where
  | map (l : List (Value × AV))
  | fix (l : List (Value × AV)) (es : Array MapEntry) (c : Nat)
  | iter (b : Nat) (es : Array MapEntry) (c : Nat) (left : List (Value × AV)) (cur : Option (Value × AV))
instance : Coe (List (Value × AV)) MO:=⟨.map⟩
def MO.list : MO→Option (List (Value × AV))
  | .map l=>some l
  | .fix l _ _=>some l
  | _=>none
structure AS where
  objs : Nat→Option (List AV)
  own : Nat→Option Nat
  maps : Nat→Option MO
def upd {α : Type} (f : Nat→α) (d : Nat) (x : α) (i : Nat) : α:=if i = d then x else f i
@[simp] theorem upd_same {α : Type} (f : Nat→α) (d : Nat) (x : α) : upd f d x d = x:=by simp [upd]
theorem upd_ne {α : Type} (f : Nat→α) {d i : Nat} (x : α) (h : i≠d) : upd f d x i = f i:=by simp [upd,h]
def AS.set (s : AS) (o : Nat) (cs : List AV) : AS:={ s with objs:=upd s.objs o (some cs) }
def AS.drop (s : AS) (o : Nat) : AS:={ s with objs:=upd s.objs o none }
def AS.gain (s : AS) (t e : Nat) : AS:={ s with own:=upd s.own t (some e) }
structure AS.le (s s' : AS) : Prop where
  objs : ∀ o cs,s.objs o = some cs→s'.objs o = some cs
  own : ∀ t e,s.own t = some e→s'.own t = some e
  maps : ∀ b l,s.maps b = some l→s'.maps b = some l
def Keeps (W W' : World) : Prop:=∀ (k : Nat) (o : Obj),W.heap[k]? = some o→((∀ c T f,o≠.cells c T f)∧(∀ es n,o≠.map es n)∧∀ m s q n,o≠.mapIter m s q n)→W'.heap[k]? = some o
theorem Keeps.refl (W : World) : Keeps W W:=fun _ _ h _=>h
theorem Keeps.trans {A B C : World} (h : Keeps A B) (k : Keeps B C) : Keeps A C:=fun i o hi ho=>k i o (h i o hi ho) ho
theorem Keeps.alloc (W : World) (x : Obj) : Keeps W (W.alloc x):=by
  intro k o hk _
  have hlt : k < W.heap.size:=(Array.getElem?_eq_some_iff.1 hk).1
  simp only [World.alloc,Array.getElem?_push,if_neg (Nat.ne_of_lt hlt)]
  exact hk
theorem Keeps.setCell (W : World) (a : Addr) (v : Value) : Keeps W (W.setCell a v):=by
  intro k o hk ho
  simp only [World.setCell,Array.getElem?_modify,hk]
  split
  · cases o with
    | cells c T f=>exact absurd rfl (ho.1 c T f)
    | _=>rfl
  · rfl
theorem Keeps.freeze (W : World) (a : Addr) (n : Nat) : Keeps W (W.freeze a n):=by
  unfold World.freeze
  split
  · exact Keeps.refl W
  · intro k o hk ho
    simp only [Array.getElem?_modify,hk]
    split
    · cases o with
      | cells c T f=>exact absurd rfl (ho.1 c T f)
      | _=>rfl
    · rfl
theorem heapNew (w : World) (o : Obj) : (w.alloc o).heap[w.heap.size]? = some o:=by show (w.heap.push o)[w.heap.size]? = some o; simp
def Kn (G : Gh) (s : AS) (b : Nat) : Prop:=(∃ o,G.obj o = some b)∨∃ t e r,s.own t = some e∧G.tok t e = some (b,r)
def Soft (K : Nat→Prop) (w : World) : Prop:=∀ b c T lo hi,K b→w.heap[b]? = some (.cells c T (lo,hi))→lo = hi∨c.size≤lo
theorem Kn.mono {G : Gh} {s s' : AS} {b : Nat} (k : s.le s') : Kn G s b→Kn G s' b
  | .inl h=>.inl h
  | .inr ⟨t,e,r,h1,h2⟩=>.inr ⟨t,e,r,k.own t e h1,h2⟩
def MapRel (G : Gh) : List (Value × AV)→List MapEntry→Prop
  | [],es=>es = []
  | (k,v) :: l,es=>∃ e es',es = e :: es'∧e.key = k∧VRel G v e.val∧MapRel G l es'
theorem MapRel.mono {G G' : Gh} (h : G.le G') : ∀ {l : List (Value × AV)} {es : List MapEntry},MapRel G l es→MapRel G' l es
  | [],es,k=>k
  | (_,v) :: l,es,k=>by
    simp only [MapRel] at k ⊢
    obtain ⟨e,es',h1,h2,h3,h4⟩:=k
    exact ⟨e,es',h1,h2,VRel.mono h v _ h3,MapRel.mono h h4⟩
def MORel (G : Gh) : MO→Obj→Prop
  | .map l,o=>∃ es c,o = .map es c∧MapKept.Stamped es c∧MapRel G l es.toList
  | .fix l es c,o=>o = .map es c∧MapKept.Stamped es c∧MapRel G l es.toList
  | .iter b es c left cur,o=>∃ since seen c0,o = .mapIter (some b) since seen c0∧(∀ x ∈ es.toList,x.born < since)∧since≤c0∧since≤c∧MapRel G left (leftOf es seen).toList ∧
      ∀ k v,cur = some (k,v)→∃ e ∈ es.toList,∃ seen' : Array Nat,seen = seen'.push e.born∧c0 = c∧e.key = k∧VRel G v e.val
theorem MORel.mono {G G' : Gh} {m : MO} {o : Obj} (k : MORel G m o) (h : G.le G') : MORel G' m o:=by
  cases m with
  | map l=>obtain ⟨es,c,h1,h2,h3⟩:=k; exact ⟨es,c,h1,h2,MapRel.mono h h3⟩
  | fix l es c=>exact ⟨k.1,k.2.1,MapRel.mono h k.2.2⟩
  | iter b es c left cur =>
    obtain ⟨since,seen,c0,h1,h2,h3,h4,h5,h6⟩:=k
    refine ⟨since,seen,c0,h1,h2,h3,h4,MapRel.mono h h5,fun k v hc=>?_⟩
    obtain ⟨e,he,q,a1,a2,a3,a4⟩:=h6 k v hc
    exact ⟨e,he,q,a1,a2,a3,VRel.mono h v _ a4⟩
theorem MORel.nc {G : Gh} {m : MO} {o : Obj} (k : MORel G m o) : ∀ c T f,o≠.cells c T f:=by
  cases m with
  | map l=>obtain ⟨es,c,rfl,_⟩:=k; intro _ _ _ e; cases e
  | fix l es c=>obtain ⟨rfl,_⟩:=k; intro _ _ _ e; cases e
  | iter b es c left cur=>obtain ⟨since,seen,c0,rfl,_⟩:=k; intro _ _ _ e; cases e
def Mapish (o : Obj) : Prop:=(∃ es c,o = .map es c)∨∃ m s q n,o = .mapIter m s q n
theorem MORel.mapish {G : Gh} {m : MO} {o : Obj} (k : MORel G m o) : Mapish o:=by
  cases m with
  | map l=>obtain ⟨es,c,h,_⟩:=k; exact .inl ⟨es,c,h⟩
  | fix l es c=>exact .inl ⟨es,c,k.1⟩
  | iter b es c left cur=>obtain ⟨since,seen,c0,h,_⟩:=k; exact .inr ⟨_,_,_,_,h⟩
theorem Mapish.nc {o : Obj} (k : Mapish o) : ∀ c T f,o≠.cells c T f:=by
  rcases k with ⟨es,c,rfl⟩ | ⟨m,s,q,n,rfl⟩ <;> intro _ _ _ e <;> cases e
theorem map_alloc {w : World} {x : Obj} {b : Nat} {o : Obj} (h : w.heap[b]? = some o) : (w.alloc x).heap[b]? = some o:=by
  have hlt : b < w.heap.size:=(Array.getElem?_eq_some_iff.1 h).1
  simp only [World.alloc,Array.getElem?_push,if_neg (Nat.ne_of_lt hlt)]
  exact h
theorem map_setCell {w : World} {a : Addr} {u : Value} {b : Nat} {o : Obj} (ho : ∀ c T f,o≠.cells c T f) (h : w.heap[b]? = some o) : (w.setCell a u).heap[b]? = some o:=by
  simp only [World.setCell,Array.getElem?_modify,h]
  split
  · cases o with
    | cells c T f=>exact absurd rfl (ho c T f)
    | _=>rfl
  · rfl
theorem map_freeze {w : World} {a : Addr} {n : Nat} {b : Nat} {o : Obj} (ho : ∀ c T f,o≠.cells c T f) (h : w.heap[b]? = some o) : (w.freeze a n).heap[b]? = some o:=by
  unfold World.freeze
  split
  · exact h
  · simp only [Array.getElem?_modify,h]
    split
    · cases o with
      | cells c T f=>exact absurd rfl (ho c T f)
      | _=>rfl
    · rfl
variable (Γ : Nat→List AV)
structure SRel (G : Gh) (s : AS) (w : World) : Prop where
  ro : ∀ b j u,G.ro b j = some u→w.cell? ⟨b,j,none⟩ = some u
  objs : ∀ o cs,s.objs o = some cs→∃ b vs,G.obj o = some b∧VRels G cs vs∧G.B≤b∧(∀ j u,vs[j]? = some u→w.cell? ⟨b,j,none⟩ = some u∧w.frozen? ⟨b,j,none⟩ = false∧G.ro b j = none)
  objLt : ∀ o b,G.obj o = some b→b < w.heap.size
  inj : ∀ o o' b,G.obj o = some b→G.obj o' = some b→o = o'
  own : ∀ t e,s.own t = some e→∃ b st en,G.tok t e = some (b,st,en)∧st≤en∧G.B≤b∧(∀ j,st≤j→j < en→(∃ u,w.cell? ⟨b,j,none⟩ = some u)∧w.frozen? ⟨b,j,none⟩ = false∧G.ro b j = none)∧(∀ o,G.obj o≠some b)∧b < w.heap.size
  ownInj : ∀ t e t' e' b st en st' en',s.own t = some e→s.own t' = some e'→G.tok t e = some (b,st,en)→G.tok t' e' = some (b,st',en')→t = t'
  ownLast : ∀ t e,s.own t = some e→∀ e',e < e'→G.tok t e' = none
  freshO : ∀ o,G.no≤o→G.obj o = none
  freshT : ∀ t,G.nt≤t→∀ e,G.tok t e = none
  below : Below G.B G.w0 w
  others : Keeps G.w0 w
  base : G.B≤w.heap.size
  glob : ∀ g,∃ vs,VRels G (Γ g) vs∧RoAt G g 0 vs
  soft : Soft (Kn G s) w
  maps : ∀ b l,s.maps b = some l→G.B≤b∧∃ ob,w.heap[b]? = some ob∧MORel G l ob
variable {Γ}
theorem SRel.mono {G : Gh} {s s' : AS} {w : World} (h : SRel Γ G s' w) (k : s.le s') : SRel Γ G s w :=
  ⟨h.ro,fun o cs hc=>h.objs o cs (k.objs o cs hc),h.objLt,h.inj,fun t e he=>h.own t e (k.own t e he),
   fun t e t' e' b st en st' en' h1 h2=>h.ownInj t e t' e' b st en st' en' (k.own t e h1) (k.own t' e' h2),
   fun t e he=>h.ownLast t e (k.own t e he),h.freshO,h.freshT,h.below,h.others,h.base,h.glob,fun b c T lo hi hb=>h.soft b c T lo hi (hb.mono k),fun b l hb=>h.maps b l (k.maps b l hb)⟩
theorem SRel.knLt {G : Gh} {s : AS} {w : World} (h : SRel Γ G s w) {b : Nat} (hb : Kn G s b) : b < w.heap.size:=by
  rcases hb with ⟨o,ho⟩ | ⟨t,e,r,h1,h2⟩
  · exact h.objLt o b ho
  · obtain ⟨b',st,en,k1,_,_,_,_,k6⟩:=h.own t e h1
    rw [h2] at k1
    cases k1
    exact k6
theorem SRel.obj_isNone {G : Gh} {s : AS} {w : World} (h : SRel Γ G s w) {o : Nat} (ho : G.no≤o) : s.objs o = none:=by
  cases hs : s.objs o with
  | none=>rfl
  | some cs=>obtain ⟨b,vs,h1,_⟩:=h.objs o cs hs; rw [h.freshO o ho] at h1; cases h1
theorem SRel.own_isNone {G : Gh} {s : AS} {w : World} (h : SRel Γ G s w) {t : Nat} (ht : G.nt≤t) : s.own t = none:=by
  cases hs : s.own t with
  | none=>rfl
  | some e=>obtain ⟨b,st,en,h1,_⟩:=h.own t e hs; rw [h.freshT t ht] at h1; cases h1
theorem SRel.drew {G : Gh} {s : AS} {w : World} (h : SRel Γ G s w) : SRel Γ G s w.drew :=
  ⟨h.ro,h.objs,h.objLt,h.inj,h.own,h.ownInj,h.ownLast,h.freshO,h.freshT,h.below.drew,h.others,h.base,h.glob,h.soft,h.maps⟩
theorem cell_alloc {w : World} {o : Obj} {b j : Nat} {u : Value} (h : w.cell? ⟨b,j,none⟩ = some u) : (w.alloc o).cell? ⟨b,j,none⟩ = some u:=by
  rw [World.cell?_alloc_lt w o ⟨b,j,none⟩ (World.block_lt_of_cell? w _ h),h]
theorem frozen_alloc {w : World} {o : Obj} {b j : Nat} (hb : b < w.heap.size) : (w.alloc o).frozen? ⟨b,j,none⟩ = w.frozen? ⟨b,j,none⟩ :=
  World.frozen?_alloc_old w o ⟨b,j,none⟩ (Nat.ne_of_lt hb)
theorem SRel.alloc {G : Gh} {s : AS} {w : World} (h : SRel Γ G s w) (x : Obj) (hx : ∀ c T lo hi,x = .cells c T (lo,hi)→lo = hi∨c.size≤lo:=by intro c T lo hi e; cases e; exact .inl rfl) : SRel Γ G s (w.alloc x) where
  ro b j u hu:=cell_alloc (h.ro b j u hu)
  objs o cs hc:=by
    obtain ⟨b,vs,h1,h2,h3,h4⟩:=h.objs o cs hc
    exact ⟨b,vs,h1,h2,h3,fun j u hu=>⟨cell_alloc (h4 j u hu).1,by rw [frozen_alloc (h.objLt o b h1)]; exact (h4 j u hu).2.1,(h4 j u hu).2.2⟩⟩
  objLt o b hb:=by have:=h.objLt o b hb; simp; omega
  inj:=h.inj
  own t e he:=by
    obtain ⟨b,st,en,h1,h2,h3,h4,h5,h6⟩:=h.own t e he
    refine ⟨b,st,en,h1,h2,h3,fun j hj hj'=>?_,h5,by simp; omega⟩
    obtain ⟨⟨u,hu⟩,h7,h8⟩:=h4 j hj hj'
    exact ⟨⟨u,cell_alloc hu⟩,by rw [frozen_alloc h6]; exact h7,h8⟩
  ownInj:=h.ownInj
  ownLast:=h.ownLast
  freshO:=h.freshO
  freshT:=h.freshT
  below:=h.below.alloc h.base _
  others:=h.others.trans (Keeps.alloc _ _)
  base:=by have:=h.base; simp; omega
  glob:=h.glob
  soft b c T lo hi hb hc:=by
    simp only [World.alloc,Array.getElem?_push] at hc
    split at hc
    · cases hc; exact hx _ _ _ _ rfl
    · exact h.soft b c T lo hi hb hc
  maps b l hb:=by
    obtain ⟨m1,ob,m2,m3⟩:=h.maps b l hb
    exact ⟨m1,ob,map_alloc m2,m3⟩
def Gh.addObj (G : Gh) (o b : Nat) : Gh:={ G with obj:=upd G.obj o (some b),no:=max G.no (o + 1) }
theorem Gh.le_addObj {G : Gh} {o : Nat} (b : Nat) (ho : G.obj o = none) : G.le (G.addObj o b) :=
  ⟨fun _ _ _ h=>h,fun o' b' h=>by
    by_cases e : o' = o
    · subst e; rw [ho] at h; cases h
    · simpa [Gh.addObj,upd,e] using h,fun _ _ _ h=>h,rfl,rfl,rfl⟩
theorem SRel.newObj {G : Gh} {s : AS} {w : World} (h : SRel Γ G s w) {cs : List AV} {vs : List Value} (hv : VRels G cs vs) (T : TypeId) :
    ∃ o,s.objs o = none∧G.le (G.addObj o w.heap.size)∧SRel Γ (G.addObj o w.heap.size) (s.set o cs) (w.alloc (.cells vs.toArray T))∧(G.addObj o w.heap.size).obj o = some w.heap.size:=by
  have ho : G.obj G.no = none:=h.freshO _ (Nat.le_refl _)
  have hle:=Gh.le_addObj w.heap.size ho
  refine ⟨G.no,h.obj_isNone (Nat.le_refl _),hle,?_,by simp [Gh.addObj]⟩
  have h':=h.alloc (.cells vs.toArray T)
  constructor
  case ro=>exact h'.ro
  case objs =>
    intro o cs' hc
    by_cases e : o = G.no
    · subst e
      simp [AS.set] at hc
      subst hc
      refine ⟨w.heap.size,vs,by simp [Gh.addObj],VRels.mono hle _ _ hv,h.base,fun j u hu=>⟨by simpa using hu,World.frozen?_alloc_new ..,?_⟩⟩
      cases hr : (G.addObj G.no w.heap.size).ro w.heap.size j with
      | none=>rfl
      | some x=>exact absurd (World.block_lt_of_cell? w _ (h.ro _ _ _ hr)) (Nat.lt_irrefl _)
    · simp [AS.set,upd,e] at hc
      obtain ⟨b,us,h1,h2,h3,h4⟩:=h'.objs o cs' hc
      exact ⟨b,us,hle.obj _ _ h1,VRels.mono hle _ _ h2,h3,h4⟩
  case objLt =>
    intro o b hb
    by_cases e : o = G.no
    · subst e; simp [Gh.addObj] at hb; subst hb; simp
    · simp [Gh.addObj,upd,e] at hb; exact h'.objLt o b hb
  case inj =>
    intro o o' b h1 h2
    by_cases e : o = G.no <;> by_cases e' : o' = G.no
    · rw [e,e']
    · subst e; simp [Gh.addObj,upd,e'] at h1 h2; subst h1; exact absurd (h.objLt _ _ h2) (Nat.lt_irrefl _)
    · subst e'; simp [Gh.addObj,upd,e] at h1 h2; subst h2; exact absurd (h.objLt _ _ h1) (Nat.lt_irrefl _)
    · simp [Gh.addObj,upd,e,e'] at h1 h2; exact h.inj o o' b h1 h2
  case own =>
    intro t e he
    obtain ⟨b,st,en,h1,h2,h3,h4,h5,h6⟩:=h'.own t e he
    obtain ⟨b1,st1,en1,k1,_,_,_,_,k6⟩:=h.own t e he
    refine ⟨b,st,en,h1,h2,h3,h4,fun o ho'=>?_,h6⟩
    by_cases e' : o = G.no
    · subst e'
      simp [Gh.addObj] at ho'
      rw [h1] at k1; simp at k1
      omega
    · simp [Gh.addObj,upd,e'] at ho'; exact h5 o ho'
  case ownInj=>exact h'.ownInj
  case ownLast=>exact h'.ownLast
  case freshO =>
    intro o ho'
    simp [Gh.addObj] at ho'
    have : o≠G.no:=by omega
    simp [Gh.addObj,upd,this]
    exact h.freshO o (by omega)
  case freshT=>exact h'.freshT
  case below=>exact h'.below
  case others=>exact h'.others
  case base=>exact h'.base
  case soft =>
    rintro b c T' lo hi hb hc
    rcases hb with ⟨o',ho'⟩ | ⟨t,e,r,h1,h2⟩
    · by_cases e : o' = G.no
      · subst e
        simp only [Gh.addObj,upd_same,Option.some.injEq] at ho'
        subst ho'
        rw [heapNew] at hc
        cases hc
        exact .inl rfl
      · exact h'.soft b c T' lo hi (.inl ⟨o',by simpa [Gh.addObj,upd,e] using ho'⟩) hc
    · exact h'.soft b c T' lo hi (.inr ⟨t,e,r,h1,h2⟩) hc
  case maps=>intro b l hb; obtain ⟨m1,ob,m2,m3⟩:=h'.maps b l hb; exact ⟨m1,ob,m2,m3.mono hle⟩
  case glob =>
    intro g
    obtain ⟨us,h1,h2⟩:=h.glob g
    exact ⟨us,VRels.mono hle _ _ h1,h2.mono hle⟩
def Gh.addRo (G : Gh) (b off : Nat) (vs : List Value) : Gh :=
  { G with ro:=fun b' j=>if b' = b∧off≤j∧j < off + vs.length then vs[j - off]? else G.ro b' j }
theorem Gh.le_addRo {G : Gh} {b off : Nat} {vs : List Value} (h : ∀ j,off≤j→j < off + vs.length→G.ro b j = none) : G.le (G.addRo b off vs):=by
  refine ⟨fun b' j u hu=>?_,fun _ _ h=>h,fun _ _ _ h=>h,rfl,rfl,rfl⟩
  simp only [Gh.addRo]
  split
  · rename_i hc; obtain ⟨rfl,h1,h2⟩:=hc; rw [h j h1 h2] at hu; cases hu
  · exact hu
theorem RoAt.added (G : Gh) (b off : Nat) (vs : List Value) : RoAt (G.addRo b off vs) b off vs:=by
  intro j u hu
  have hj : j < vs.length:=by
    rcases Nat.lt_or_ge j vs.length with h | h
    · exact h
    · simp [List.getElem?_eq_none h] at hu
  simp only [Gh.addRo]
  rw [if_pos ⟨trivial,by omega,by omega⟩]
  simpa using hu
theorem not_ro_new {G : Gh} {s : AS} {w : World} (h : SRel Γ G s w) (j : Nat) : G.ro w.heap.size j = none:=by
  cases hr : G.ro w.heap.size j with
  | none=>rfl
  | some x=>exact absurd (World.block_lt_of_cell? w _ (h.ro _ _ _ hr)) (Nat.lt_irrefl _)
theorem SRel.newRo {G : Gh} {s : AS} {w : World} (h : SRel Γ G s w) (vs : List Value) (c : Array Value) (T : TypeId) (hc : ∀ (j : Nat) (u : Value),vs[j]? = some u→c[j]? = some u) :
    G.le (G.addRo w.heap.size 0 vs)∧SRel Γ (G.addRo w.heap.size 0 vs) s (w.alloc (.cells c T)):=by
  have hle : G.le (G.addRo w.heap.size 0 vs):=Gh.le_addRo fun j _ _=>not_ro_new h j
  refine ⟨hle,?_⟩
  have h':=h.alloc (.cells c T)
  have hro : ∀ b j,b≠w.heap.size→(G.addRo w.heap.size 0 vs).ro b j = G.ro b j:=fun b j hb=>by simp [Gh.addRo,hb]
  constructor
  case ro =>
    intro b j u hu
    by_cases e : b = w.heap.size
    · subst e
      simp only [Gh.addRo] at hu
      split at hu
      · rename_i hj
        rw [World.cell?_alloc_new]
        exact hc j u (by simpa using hu)
      · rw [not_ro_new h j] at hu; cases hu
    · rw [hro b j e] at hu; exact h'.ro b j u hu
  case objs =>
    intro o cs ho
    obtain ⟨b,us,h1,h2,h3,h4⟩:=h'.objs o cs ho
    refine ⟨b,us,h1,VRels.mono hle _ _ h2,h3,fun j u hu=>⟨(h4 j u hu).1,(h4 j u hu).2.1,?_⟩⟩
    rw [hro b j (Nat.ne_of_lt (h.objLt o b h1))]; exact (h4 j u hu).2.2
  case objLt=>exact h'.objLt
  case inj=>exact h'.inj
  case own =>
    intro t e he
    obtain ⟨b,st,en,h1,h2,h3,h4,h5,h6⟩:=h'.own t e he
    obtain ⟨b1,st1,en1,k1,_,_,_,_,k6⟩:=h.own t e he
    rw [h1] at k1; simp at k1
    refine ⟨b,st,en,h1,h2,h3,fun j hj hj'=>⟨(h4 j hj hj').1,(h4 j hj hj').2.1,?_⟩,h5,h6⟩
    rw [hro b j (by omega)]; exact (h4 j hj hj').2.2
  case ownInj=>exact h'.ownInj
  case ownLast=>exact h'.ownLast
  case freshO=>exact h'.freshO
  case freshT=>exact h'.freshT
  case below=>exact h'.below
  case others=>exact h'.others
  case base=>exact h'.base
  case soft=>exact h'.soft
  case maps=>intro b l hb; obtain ⟨m1,ob,m2,m3⟩:=h'.maps b l hb; exact ⟨m1,ob,m2,m3.mono hle⟩
  case glob =>
    intro g
    obtain ⟨us,h1,h2⟩:=h.glob g
    exact ⟨us,VRels.mono hle _ _ h1,h2.mono hle⟩
theorem soft_setCell {K : Nat→Prop} {w : World} (h : Soft K w) {a : Addr} {u : Value} :
    ∀ b c T lo hi,K b→(w.setCell a u).heap[b]? = some (.cells c T (lo,hi))→lo = hi∨c.size≤lo:=by
  intro b c T lo hi hb hc
  simp only [World.setCell,Array.getElem?_modify] at hc
  split at hc
  · cases hh : w.heap[b]? with
    | none=>simp [hh] at hc
    | some o =>
      simp only [hh,Option.map_some,Option.some.injEq] at hc
      cases o with
      | cells c' T' fr =>
        obtain ⟨lo',hi'⟩:=fr
        simp only [Obj.cells.injEq,Prod.mk.injEq] at hc
        obtain ⟨h1,rfl,rfl,rfl⟩:=hc
        have:=h b c' T' lo' hi' hb hh
        have hs : c.size = c'.size:=by
          rw [← h1]; split <;> simp
        omega
      | _=>cases hc
  · exact h b c T lo hi hb hc
theorem SRel.setCell {G : Gh} {s : AS} {w : World} (h : SRel Γ G s w) {o b i : Nat} {cs : List AV} {c : AV} {u : Value} (ho : s.objs o = some cs) (hb : G.obj o = some b) (hi : i < cs.length) (hc : VRel G c u) :
    (∃ u0,w.cell? ⟨b,i,none⟩ = some u0)∧w.frozen? ⟨b,i,none⟩ = false∧SRel Γ G (s.set o (cs.set i c)) (w.setCell ⟨b,i,none⟩ u):=by
  obtain ⟨b',vs,h1,h2,h3,h4⟩:=h.objs o cs ho
  rw [hb] at h1; cases h1
  have hl:=h2.length
  have hiv : vs[i]? = some vs[i]:=by simp
  obtain ⟨hc1,hc2,hc3⟩:=h4 i _ hiv
  refine ⟨⟨_,hc1⟩,hc2,?_⟩
  have hne : ∀ (b' j' : Nat),(b'≠b∨j'≠i)→(w.setCell ⟨b,i,none⟩ u).cell? ⟨b',j',none⟩ = w.cell? ⟨b',j',none⟩:=by
    intro b' j' hd
    refine World.cell?_setCell_other _ _ _ _ ?_
    intro e
    simp at e
    omega
  constructor
  case ro =>
    intro b' j' u' hu'
    rw [hne]
    · exact h.ro b' j' u' hu'
    · by_cases e : b' = b
      · subst e
        right
        intro e; subst e; rw [hc3] at hu'; cases hu'
      · exact .inl e
  case objs =>
    intro o' cs' hc'
    by_cases e : o' = o
    · subst e
      simp [AS.set] at hc'
      subst hc'
      refine ⟨b,vs.set i u,hb,h2.set i hc,h3,fun j y hy=>?_⟩
      by_cases e : j = i
      · subst e
        rw [List.getElem?_set_self (by omega)] at hy
        cases hy
        exact ⟨World.cell?_setCell_same _ _ _ hc1,by simpa using hc2,hc3⟩
      · rw [List.getElem?_set_ne (by omega)] at hy
        rw [hne _ _ (.inr e)]
        obtain ⟨k1,k2,k3⟩:=h4 j y hy
        exact ⟨k1,by simpa using k2,k3⟩
    · simp [AS.set,upd,e] at hc'
      obtain ⟨b',us,k1,k2,k3,k4⟩:=h.objs o' cs' hc'
      refine ⟨b',us,k1,k2,k3,fun j y hy=>?_⟩
      have hbb : b'≠b:=fun e'=>e (h.inj o' o b (e' ▸ k1) hb)
      rw [hne _ _ (.inl hbb)]
      obtain ⟨l1,l2,l3⟩:=k4 j y hy
      exact ⟨l1,by simpa using l2,l3⟩
  case objLt=>intro o b hb; simpa using h.objLt o b hb
  case inj=>exact h.inj
  case own =>
    intro t e he
    obtain ⟨b',st,en,k1,k2,k3,k4,k5,k6⟩:=h.own t e he
    refine ⟨b',st,en,k1,k2,k3,fun j hj hj'=>?_,k5,by simpa using k6⟩
    have hbb : b'≠b:=fun e'=>k5 o (e' ▸ hb)
    rw [hne _ _ (.inl hbb)]
    obtain ⟨l1,l2,l3⟩:=k4 j hj hj'
    exact ⟨l1,by simpa using l2,l3⟩
  case ownInj=>exact h.ownInj
  case ownLast=>exact h.ownLast
  case freshO=>exact h.freshO
  case freshT=>exact h.freshT
  case below=>exact h.below.setCell h3 _
  case others=>exact h.others.trans (Keeps.setCell _ _ _)
  case base=>simpa using h.base
  case soft=>exact soft_setCell h.soft
  case maps=>intro b l hb; obtain ⟨m1,ob,m2,m3⟩:=h.maps b l hb; exact ⟨m1,ob,map_setCell m3.nc m2,m3⟩
  case glob=>exact h.glob
theorem SRel.freeze {G : Gh} {s : AS} {w : World} (h : SRel Γ G s w) {o : Nat} {cs : List AV} (ho : s.objs o = some cs) :
    ∃ b vs,G.obj o = some b∧VRels G cs vs∧G.le (G.addRo b 0 vs)∧RoAt (G.addRo b 0 vs) b 0 vs∧SRel Γ (G.addRo b 0 vs) (s.drop o) w:=by
  obtain ⟨b,vs,h1,h2,h3,h4⟩:=h.objs o cs ho
  have hle : G.le (G.addRo b 0 vs):=Gh.le_addRo fun j _ hj=>by
    have hj : j < vs.length:=by omega
    exact (h4 j vs[j] (by simp)).2.2
  have hro : ∀ b' j,b'≠b→(G.addRo b 0 vs).ro b' j = G.ro b' j:=fun b' j hb=>by simp [Gh.addRo,hb]
  refine ⟨b,vs,h1,h2,hle,RoAt.added G b 0 vs,?_⟩
  constructor
  case ro =>
    intro b' j u hu
    by_cases e : b' = b
    · subst e
      simp only [Gh.addRo] at hu
      split at hu
      · exact (h4 j u (by simpa using hu)).1
      · exact h.ro _ j u hu
    · rw [hro b' j e] at hu; exact h.ro b' j u hu
  case objs =>
    intro o' cs' ho'
    by_cases e : o' = o
    · subst e; simp [AS.drop] at ho'
    · simp [AS.drop,upd,e] at ho'
      obtain ⟨b',us,k1,k2,k3,k4⟩:=h.objs o' cs' ho'
      have hbb : b'≠b:=fun e'=>e (h.inj o' o b (e' ▸ k1) h1)
      refine ⟨b',us,k1,VRels.mono hle _ _ k2,k3,fun j u hu=>⟨(k4 j u hu).1,(k4 j u hu).2.1,?_⟩⟩
      rw [hro b' j hbb]; exact (k4 j u hu).2.2
  case objLt=>exact h.objLt
  case inj=>exact h.inj
  case own =>
    intro t e he
    obtain ⟨b',st,en,k1,k2,k3,k4,k5,k6⟩:=h.own t e he
    have hbb : b'≠b:=fun e'=>k5 o (e' ▸ h1)
    refine ⟨b',st,en,k1,k2,k3,fun j hj hj'=>⟨(k4 j hj hj').1,(k4 j hj hj').2.1,?_⟩,k5,k6⟩
    rw [hro b' j hbb]; exact (k4 j hj hj').2.2
  case ownInj=>exact h.ownInj
  case ownLast=>exact h.ownLast
  case freshO=>exact h.freshO
  case freshT=>exact h.freshT
  case below=>exact h.below
  case others=>exact h.others
  case base=>exact h.base
  case soft=>exact h.soft
  case maps=>intro b l hb; obtain ⟨m1,ob,m2,m3⟩:=h.maps b l hb; exact ⟨m1,ob,m2,m3.mono hle⟩
  case glob =>
    intro g
    obtain ⟨us,h1,h2⟩:=h.glob g
    exact ⟨us,VRels.mono hle _ _ h1,h2.mono hle⟩
def Gh.addTok (G : Gh) (t e : Nat) (r : Nat × Nat × Nat) : Gh :=
  { G with tok:=fun t' e'=>if t' = t∧e' = e then some r else G.tok t' e',nt:=max G.nt (t + 1) }
theorem Gh.le_addTok {G : Gh} {t e : Nat} (r : Nat × Nat × Nat) (h : G.tok t e = none) : G.le (G.addTok t e r):=by
  refine ⟨fun _ _ _ h=>h,fun _ _ h=>h,fun t' e' r' hr=>?_,rfl,rfl,rfl⟩
  simp only [Gh.addTok]
  split
  · rename_i hc; obtain ⟨rfl,rfl⟩:=hc; rw [h] at hr; cases hr
  · exact hr
theorem SRel.gain {G : Gh} {s : AS} {w : World} (h : SRel Γ G s w) {t e b st en : Nat} (hn : G.tok t e = none) (hl : ∀ e',e < e'→G.tok t e' = none)
    (h1 : st≤en) (h2 : G.B≤b) (h3 : ∀ j,st≤j→j < en→(∃ u,w.cell? ⟨b,j,none⟩ = some u)∧w.frozen? ⟨b,j,none⟩ = false∧G.ro b j = none) (h4 : ∀ o,G.obj o≠some b) (h5 : b < w.heap.size)
    (h6 : ∀ t' e' st' en',t'≠t→s.own t' = some e'→G.tok t' e'≠some (b,st',en')) (h7 : ∀ c T lo hi,w.heap[b]? = some (.cells c T (lo,hi))→lo = hi∨c.size≤lo) :
    G.le (G.addTok t e (b,st,en))∧SRel Γ (G.addTok t e (b,st,en)) (s.gain t e) w:=by
  have hle:=Gh.le_addTok (b,st,en) hn
  refine ⟨hle,?_⟩
  have hother : ∀ t' e',t'≠t→(G.addTok t e (b,st,en)).tok t' e' = G.tok t' e':=fun t' e' hne=>by simp [Gh.addTok,hne]
  constructor
  case ro=>exact h.ro
  case objs =>
    intro o cs ho
    obtain ⟨b',us,k1,k2,k3,k4⟩:=h.objs o cs ho
    exact ⟨b',us,k1,VRels.mono hle _ _ k2,k3,k4⟩
  case objLt=>exact h.objLt
  case inj=>exact h.inj
  case own =>
    intro t' e' he
    by_cases ht : t' = t
    · subst ht
      simp [AS.gain] at he
      subst he
      exact ⟨b,st,en,by simp [Gh.addTok],h1,h2,h3,h4,h5⟩
    · simp [AS.gain,upd,ht] at he
      obtain ⟨b',st',en',k1,k2,k3,k4,k5,k6⟩:=h.own t' e' he
      exact ⟨b',st',en',by rw [hother _ _ ht]; exact k1,k2,k3,k4,k5,k6⟩
  case ownInj =>
    intro t1 e1 t2 e2 b' st1 en1 st2 en2 o1 o2 k1 k2
    by_cases c1 : t1 = t <;> by_cases c2 : t2 = t
    · rw [c1,c2]
    · subst c1
      simp [AS.gain,upd,c2] at o1 o2
      subst o1
      rw [hother _ _ c2] at k2
      simp [Gh.addTok] at k1
      obtain ⟨rfl,rfl,rfl⟩:=k1
      exact absurd k2 (h6 t2 e2 _ _ c2 o2)
    · subst c2
      simp [AS.gain,upd,c1] at o1 o2
      subst o2
      rw [hother _ _ c1] at k1
      simp [Gh.addTok] at k2
      obtain ⟨rfl,rfl,rfl⟩:=k2
      exact absurd k1 (h6 t1 e1 _ _ c1 o1)
    · simp [AS.gain,upd,c1,c2] at o1 o2
      rw [hother _ _ c1] at k1
      rw [hother _ _ c2] at k2
      exact h.ownInj t1 e1 t2 e2 b' st1 en1 st2 en2 o1 o2 k1 k2
  case ownLast =>
    intro t' e' he e'' hlt
    by_cases ht : t' = t
    · subst ht
      simp [AS.gain] at he
      subst he
      have : e''≠e:=by omega
      simp [Gh.addTok,this,hl e'' hlt]
    · simp [AS.gain,upd,ht] at he
      rw [hother _ _ ht]
      exact h.ownLast t' e' he e'' hlt
  case freshO=>exact h.freshO
  case freshT =>
    intro t' ht' e'
    simp only [Gh.addTok] at ht'
    rw [hother _ _ (by omega)]
    exact h.freshT t' (by omega) e'
  case below=>exact h.below
  case others=>exact h.others
  case base=>exact h.base
  case maps=>intro b l hb; obtain ⟨m1,ob,m2,m3⟩:=h.maps b l hb; exact ⟨m1,ob,m2,m3.mono hle⟩
  case soft =>
    rintro b' c T' lo hi hb hc
    rcases hb with ⟨o',ho'⟩ | ⟨t',e',r,q1,q2⟩
    · exact h.soft b' c T' lo hi (.inl ⟨o',ho'⟩) hc
    · by_cases ht : t' = t
      · subst ht
        simp [AS.gain] at q1
        subst q1
        simp [Gh.addTok] at q2
        exact h7 c T' lo hi (by rw [q2.1]; exact hc)
      · simp [AS.gain,upd,ht] at q1
        rw [hother _ _ ht] at q2
        exact h.soft b' c T' lo hi (.inr ⟨t',e',r,q1,q2⟩) hc
  case glob =>
    intro g
    obtain ⟨us,h1,h2⟩:=h.glob g
    exact ⟨us,VRels.mono hle _ _ h1,h2.mono hle⟩
structure Gh.sub (G G' : Gh) : Prop where
  ro : G'.ro = G.ro
  obj : G'.obj = G.obj
  tok : G'.tok = G.tok
  B : G'.B = G.B
theorem RoAt.sub {G G' : Gh} (h : G.sub G') {b off : Nat} {vs : List Value} (k : RoAt G b off vs) : RoAt G' b off vs:=fun j u hj=>by rw [h.ro]; exact k j u hj
theorem SpRel.sub {G G' : Gh} (h : G.sub G') {b off sz n cap : Nat} {sp : Sp} (k : SpRel G b off sz n cap sp) : SpRel G' b off sz n cap sp:=by
  cases sp with
  | no=>trivial
  | any=>trivial
  | full=>exact k
  | new=>exact ⟨k.1,by rw [h.B]; exact k.2⟩
  | own t e=>simp only [SpRel] at k ⊢; rw [h.tok]; exact k
mutual
theorem VRel.sub {G G' : Gh} (h : G.sub G') : ∀ (c : AV) (u : Value),VRel G c u→VRel G' c u
  | .v x,u,k=>by simpa [VRel] using k
  | .sl sz n cs sp,u,k=>by
    simp only [VRel] at k ⊢
    rcases k with ⟨b,off,cap,vs,h1,h2,h3,h4,h5,h6⟩ | k
    · exact .inl ⟨b,off,cap,vs,h1,h2,h3,VRels.sub h cs vs h4,h5.sub h,h6.sub h⟩
    · exact .inr k
  | .rop cs,u,k=>by
    simp only [VRel] at k ⊢
    obtain ⟨b,off,vs,h1,h4,h5⟩:=k
    exact ⟨b,off,vs,h1,VRels.sub h cs vs h4,h5.sub h⟩
  | .ptr o off,u,k=>by
    simp only [VRel] at k ⊢
    rw [h.obj]
    exact k
  | .osl o off sz n cap,u,k=>by
    simp only [VRel] at k ⊢
    rw [h.obj]
    exact k
  | .agg cs,u,k=>by
    simp only [VRel] at k ⊢
    obtain ⟨vs,h1,h2⟩:=k
    exact ⟨vs,h1,VRels.sub h cs vs h2⟩
  | .tup cs,u,k=>by
    simp only [VRel] at k ⊢
    obtain ⟨vs,h1,h2⟩:=k
    exact ⟨vs,h1,VRels.sub h cs vs h2⟩
  | .clo f cs,u,k=>by
    simp only [VRel] at k ⊢
    obtain ⟨vs,h1,h2⟩:=k
    exact ⟨vs,h1,VRels.sub h cs vs h2⟩
theorem VRels.sub {G G' : Gh} (h : G.sub G') : ∀ (cs : List AV) (us : List Value),VRels G cs us→VRels G' cs us
  | [],us,k=>by simpa [VRels] using k
  | c :: cs,us,k=>by
    simp only [VRels] at k ⊢
    obtain ⟨u,us',h1,h2,h3⟩:=k
    exact ⟨u,us',h1,VRel.sub h c u h2,VRels.sub h cs us' h3⟩
end
theorem MapRel.sub {G G' : Gh} (h : G.sub G') : ∀ {l : List (Value × AV)} {es : List MapEntry},MapRel G l es→MapRel G' l es
  | [],es,k=>k
  | (_,v) :: l,es,k=>by
    simp only [MapRel] at k ⊢
    obtain ⟨e,es',h1,h2,h3,h4⟩:=k
    exact ⟨e,es',h1,h2,VRel.sub h v _ h3,MapRel.sub h h4⟩
theorem MORel.sub {G G' : Gh} {m : MO} {o : Obj} (k : MORel G m o) (h : G.sub G') : MORel G' m o:=by
  cases m with
  | map l=>obtain ⟨es,c,h1,h2,h3⟩:=k; exact ⟨es,c,h1,h2,MapRel.sub h h3⟩
  | fix l es c=>exact ⟨k.1,k.2.1,MapRel.sub h k.2.2⟩
  | iter b es c left cur =>
    obtain ⟨since,seen,c0,h1,h2,h3,h4,h5,h6⟩:=k
    refine ⟨since,seen,c0,h1,h2,h3,h4,MapRel.sub h h5,fun k v hc=>?_⟩
    obtain ⟨e,he,q,a1,a2,a3,a4⟩:=h6 k v hc
    exact ⟨e,he,q,a1,a2,a3,VRel.sub h v _ a4⟩
theorem SRel.sub {G G' : Gh} (k : G.sub G') {s : AS} {w : World} (h : SRel Γ G s w) (hno : G'.no = G.no) (hnt : G'.nt = G.nt) (hb : Below G.B G'.w0 w) (hk : Keeps G'.w0 w) : SRel Γ G' s w where
  ro:=by rw [k.ro]; exact h.ro
  objs o cs ho:=by
    obtain ⟨b,us,k1,k2,k3,k4⟩:=h.objs o cs ho
    exact ⟨b,us,by rw [k.obj]; exact k1,VRels.sub k _ _ k2,by rw [k.B]; exact k3,by rw [k.ro]; exact k4⟩
  objLt:=by rw [k.obj]; exact h.objLt
  inj:=by rw [k.obj]; exact h.inj
  own:=by rw [k.tok,k.B,k.ro,k.obj]; exact h.own
  ownInj:=by rw [k.tok]; exact h.ownInj
  ownLast:=by rw [k.tok]; exact h.ownLast
  freshO:=by rw [k.obj,hno]; exact h.freshO
  freshT:=by rw [k.tok,hnt]; exact h.freshT
  below:=by rw [k.B]; exact hb
  others:=hk
  base:=by rw [k.B]; exact h.base
  soft b c T lo hi hb:=h.soft b c T lo hi (by simpa only [Kn,k.obj,k.tok] using hb)
  maps b l hb:=by
    obtain ⟨m1,ob,m2,m3⟩:=h.maps b l hb
    exact ⟨by rw [k.B]; exact m1,ob,m2,m3.sub k⟩
  glob g:=by
    obtain ⟨us,h1,h2⟩:=h.glob g
    exact ⟨us,VRels.sub k _ _ h1,h2.sub k⟩
def Gh.setDf (G : Gh) (d : List Deferred) : Gh:={ G with df:=d }
theorem Gh.sub_setDf (G : Gh) (d : List Deferred) : G.sub (G.setDf d):=⟨rfl,rfl,rfl,rfl⟩
theorem VRel.setDf {G : Gh} {d : List Deferred} (c : AV) (u : Value) (h : VRel G c u) : VRel (G.setDf d) c u:=VRel.sub (G.sub_setDf d) c u h
theorem VRels.setDf {G : Gh} {d : List Deferred} (c : List AV) (u : List Value) (h : VRels G c u) : VRels (G.setDf d) c u:=VRels.sub (G.sub_setDf d) c u h
theorem SRel.setDf {G : Gh} {s : AS} {w : World} {d : List Deferred} (h : SRel Γ G s w) : SRel Γ (G.setDf d) s w:=h.sub (G.sub_setDf d) rfl rfl h.below h.others
theorem Gh.le_setDf {G G' : Gh} {d : List Deferred} (h : (G.setDf d).le G') : G.le (G'.setDf G.df) :=
  ⟨h.ro,h.obj,h.tok,h.B,h.w0,rfl⟩
def Gh.setW (G : Gh) (w : World) : Gh:={ G with w0:=w }
theorem Gh.sub_setW (G : Gh) (w : World) : G.sub (G.setW w):=⟨rfl,rfl,rfl,rfl⟩
theorem SRel.setW {G : Gh} {s : AS} {w : World} (h : SRel Γ G s w) : SRel Γ (G.setW w) s w:=h.sub (G.sub_setW w) rfl rfl (Below.refl _ _) (Keeps.refl _)
theorem SRel.backW {G G' : Gh} {s s' : AS} {w w' : World} (h : SRel Γ G s w) (hle : (G.setW w).le G') (h' : SRel Γ G' s' w') : SRel Γ (G'.setW G.w0) s' w'∧G.le (G'.setW G.w0):=by
  have hw : G'.w0 = w:=hle.w0
  have hB : G'.B = G.B:=hle.B
  refine ⟨h'.sub (G'.sub_setW _) rfl rfl ?_ ?_,⟨hle.ro,hle.obj,hle.tok,hle.B,rfl,hle.df⟩⟩
  · have:=h'.below
    rw [hw,hB] at this
    rw [hB]
    exact h.below.trans this
  · have:=h'.others
    rw [hw] at this
    exact h.others.trans this
end Go.AM
namespace Go.AM
open Go Go.RowKit
def byteV (b : UInt8) : AV:=.v (.int .u8 b.toNat)
def byteOf : AV→UInt8
  | .v (.int _ n)=>UInt8.ofNat n.toNat
  | _=>0
def isByte : AV→Bool
  | .v (.int .u8 _)=>true
  | _=>false
def toBytes (cs : List AV) : ByteArray:=⟨(cs.map byteOf).toArray⟩
@[simp] theorem byteOf_byteV (b : UInt8) : byteOf (byteV b) = b:=by simp [byteOf,byteV]
@[simp] theorem isByte_byteV (b : UInt8) : isByte (byteV b) = true:=rfl
@[simp] theorem toBytes_map (l : List UInt8) : toBytes (l.map byteV) = ⟨l.toArray⟩:=by
  simp [toBytes,Function.comp_def]
@[simp] theorem all_isByte_map (l : List UInt8) : (l.map byteV).all isByte = true:=by simp
def AV.cells : AV→List AV
  | .agg cs=>cs
  | .v (.agg c)=>c.toList.map .v
  | x=>[x]
def AV.one : AV→Bool
  | .agg _ | .tup _ | .v (.agg _) | .v (.tuple _)=>false
  | _=>true
@[simp] theorem one_byteV (b : UInt8) : (byteV b).one = true:=rfl
def isAggT (P : Program) (t : TypeId) : Option Bool :=
  match P.underlying t with
  | some (.struct _) | some (.array _ _)=>some true
  | some _=>some false
  | none=>none
def fieldOf (P : Program) (t : TypeId) (i : Nat) : Option (Nat × TypeId) :=
  match P.underlying t with
  | some (.struct fs)=>(fs[i]?).map fun f=>(f.offset,f.type)
  | _=>none
def fieldsOk (P : Program) (t : TypeId) : Bool :=
  match P.underlying t with
  | some (.struct fs)=>fs.all fun f=>(P.info? f.type).isSome
  | _=>false
def placeOf (P : Program) (t : TypeId) (i : Nat) : Option (Nat × Nat) :=
  match fieldOf P t i with
  | some (o,u)=>some (o,P.cellsOf u)
  | none=>none
def zcells (P : Program) (t : TypeId) : Option (List AV) :=
  ((P.info? t).bind (·.zero)).map fun z=>z.cells.toList.map .v
def zrow (n : Nat) (z : List AV) : List AV:=(List.range n).map fun i=>z.getD (i % z.length) (.v default)
theorem zrow_one (n : Nat) (x : AV) : zrow n [x] = List.replicate n x:=by
  apply List.ext_getElem
  · simp [zrow]
  · intro i h1 h2
    simp [zrow,Nat.mod_one]
def apart (P : Program) (t : TypeId) (cs : List AV) (off : Nat) : Option AV :=
  match isAggT P t with
  | some true=>some (.agg ((cs.drop off).take (P.cellsOf t)))
  | some false=>cs[off]?
  | none=>none
def asetAll (cells : List AV) (off : Nat) : List AV→List AV
  | []=>cells
  | x :: xs=>asetAll (cells.set off x) (off + 1) xs
def afill (place : Nat→Option (Nat × Nat)) (cells : List AV) : List (Nat × AV)→Option (List AV)
  | []=>some cells
  | (i,v) :: rest =>
    match place i with
    | none=>none
    | some (off,size) =>
      if v.cells.length≠size∨off + v.cells.length > cells.length then none
      else afill place (asetAll cells off v.cells) rest
def aload (P : Program) (t : TypeId) (cs : List AV) : Option AV :=
  match isAggT P t with
  | some true=>if P.cellsOf t≤cs.length then some (.agg (cs.take (P.cellsOf t))) else none
  | some false=>cs[0]?
  | none=>none
def iadd (k : IntKind) (a b : Int) : Int:=k.wrap (a + b)
def isub (k : IntKind) (a b : Int) : Int:=k.wrap (a - b)
def imul (k : IntKind) (a b : Int) : Int:=k.wrap (a * b)
def iquo (k : IntKind) (a b : Int) : Int:=k.wrap (a.tdiv b)
def irem (a b : Int) : Int:=a.tmod b
def iand (k : IntKind) (a b : Int) : Int:=k.wrap (BitVec.ofInt k.bits a &&& BitVec.ofInt k.bits b).toNat
def ior (k : IntKind) (a b : Int) : Int:=k.wrap (BitVec.ofInt k.bits a ||| BitVec.ofInt k.bits b).toNat
def ixor (k : IntKind) (a b : Int) : Int:=k.wrap (BitVec.ofInt k.bits a ^^^ BitVec.ofInt k.bits b).toNat
def iandnot (k : IntKind) (a b : Int) : Int:=k.wrap (BitVec.ofInt k.bits a &&& ~~~ BitVec.ofInt k.bits b).toNat
def ishl (k : IntKind) (a b : Int) : Int:=k.wrap (a * 2 ^ (min b.toNat k.bits))
def ishr (k : IntKind) (a b : Int) : Int:=a.fdiv (2 ^ (min b.toNat k.bits))
def ineg (k : IntKind) (a : Int) : Int:=k.wrap (0 - a)
def inot (k : IntKind) (a : Int) : Int:=k.wrap (BitVec.ofInt k.bits (if k.signed then -1 else k.max) ^^^ BitVec.ofInt k.bits a).toNat
def iconv (k : IntKind) (a : Int) : Int:=k.wrap a
def aint (op : BinOp) (k : IntKind) (a b : Int) : Option AV :=
  match op with
  | .add=>some (.v (.int k (iadd k a b)))
  | .sub=>some (.v (.int k (isub k a b)))
  | .mul=>some (.v (.int k (imul k a b)))
  | .quo=>if b = 0 then none else some (.v (.int k (iquo k a b)))
  | .rem=>if b = 0 then none else some (.v (.int k (irem a b)))
  | .and=>some (.v (.int k (iand k a b)))
  | .or=>some (.v (.int k (ior k a b)))
  | .xor=>some (.v (.int k (ixor k a b)))
  | .andNot=>some (.v (.int k (iandnot k a b)))
  | .eql=>some (.v (.bool (a == b)))
  | .neq=>some (.v (.bool (a != b)))
  | .lss=>some (.v (.bool (a < b)))
  | .leq=>some (.v (.bool (a≤b)))
  | .gtr=>some (.v (.bool (a > b)))
  | .geq=>some (.v (.bool (a ≥ b)))
  | _=>none
def ashift (op : BinOp) (k : IntKind) (a b : Int) : Option AV :=
  if b < 0 then none else
  match op with
  | .shl=>some (.v (.int k (ishl k a b)))
  | .shr=>some (.v (.int k (ishr k a b)))
  | _=>none
def astr (op : BinOp) (x y : ByteArray) : Option AV :=
  match op with
  | .add=>if ((x.size + y.size : Nat) : Int) > IntKind.i64.max then none else some (.v (.string (x ++ y)))
  | .eql=>some (.v (.bool (x.toList == y.toList)))
  | .neq=>some (.v (.bool !(x.toList == y.toList)))
  | _=>none
def abool (P : Program) (T : TypeId) (op : BinOp) (x y : Bool) : Option AV :=
  match op,P.underlying T with
  | .eql,some .bool=>some (.v (.bool (x == y)))
  | .neq,some .bool=>some (.v (.bool !(x == y)))
  | _,_=>none
def anil (op : BinOp) (t : Bool) : Option AV :=
  match op with
  | .eql=>some (.v (.bool t))
  | .neq=>some (.v (.bool !t))
  | _=>none
def aeqF (P : Program) : Nat→List Field→List AV→List AV→Option Bool
  | _,[],_,_=>some true
  | i,f :: fs,.v (.int k a) :: xs,.v (.int k' b) :: ys =>
    match P.underlying f.type with
    | some (.int _)=>if k = k'∧f.name ≠ "_"∧f.offset = i then (aeqF P (i + 1) fs xs ys).map fun r=>(a == b) && r else none
    | _=>none
  | _,_,_,_=>none
def aeqS (P : Program) (T : TypeId) (op : BinOp) (xs ys : List AV) : Option AV :=
  if P.stoodInHeld T = false∧P.eqGuardType P.depth T = false then
    match P.underlying T with
    | some (.struct fs)=>match aeqF P 0 fs.toList xs ys with | some b=>anil op b | none=>none
    | _=>none
  else none
def isSliceT (P : Program) (t : TypeId) : Bool:=match P.underlying t with | some (.slice _)=>true | _=>false
def isPtrT (P : Program) (t : TypeId) : Bool:=match P.underlying t with | some (.pointer _)=>true | _=>false
def abin (P : Program) (op : BinOp) (T : TypeId) : AV→AV→Option AV
  | .v (.int k a),.v (.int k' b) =>
    match op with
    | .shl=>ashift .shl k a b
    | .shr=>ashift .shr k a b
    | op=>if k = k' then aint op k a b else none
  | .v (.bool a),.v (.bool b)=>abool P T op a b
  | .v (.string a),.v (.string b)=>astr op a b
  | .v (.slice none _ _),.v (.slice none _ _)=>if isSliceT P T = true then anil op true else none
  | .sl _ n _ sp,.v (.slice none _ _)=>if isSliceT P T = true∧¬ (n = 0∧sp.isAny = true) then anil op false else none
  | .osl _ _ _ _ _,.v (.slice none _ _)=>if isSliceT P T = true then anil op false else none
  | .v (.pointer none),.v (.pointer none)=>if isPtrT P T = true then anil op true else none
  | .ptr _ _,.v (.pointer none)=>if isPtrT P T = true then anil op false else none
  | .v (.pointer none),.ptr _ _=>if isPtrT P T = true then anil op false else none
  | .agg xs,.agg ys=>aeqS P T op xs ys
  | _,_=>none
def aun (op : UnOp) : AV→Option AV
  | .v (.int k n) =>
    match op with
    | .neg=>some (.v (.int k (ineg k n)))
    | .xor=>some (.v (.int k (inot k n)))
    | _=>none
  | .v (.bool b)=>match op with | .not=>some (.v (.bool !b)) | _=>none
  | _=>none
def aconv (P : Program) (src dst : TypeId) (x : AV) : Option AV :=
  match P.underlying src,P.underlying dst,x with
  | some (.int _),some (.int k),.v (.int _ n)=>some (.v (.int k (iconv k n)))
  | some .string,some .string,.v (.string s)=>some (.v (.string s))
  | some (.slice e),some .string,.sl sz _ cs _ =>
    match P.underlying e with
    | some (.int .u8)=>if sz = 1∧cs.all isByte = true then some (.v (.string (toBytes cs))) else none
    | _=>none
  | some (.slice e),some .string,.v (.slice none _ _) =>
    match P.underlying e with
    | some (.int .u8)=>some (.v (.string .empty))
    | _=>none
  | some .string,some (.slice e),.v (.string s) =>
    match P.underlying e with
    | some (.int .u8)=>some (.sl 1 s.size (s.data.toList.map byteV) .no)
    | _=>none
  | some (.slice _),some (.slice e),.sl sz n cs .new =>
    match P.underlying e with
    | some (.int .u8)=>if src = dst then some (.sl sz n cs .new) else none
    | _=>none
  | _,_,_=>none
def aindexAddr (P : Program) (T : TypeId) (x i : AV) : Option AV :=
  match P.underlying T,x,i with
  | some (.slice e),.sl sz n cs _,.v (.int _ j) =>
    if 0≤j∧j < n∧P.cellsOf e = sz∧sz≠0 then some (.rop ((cs.drop (j.toNat * sz)).take sz)) else none
  | some (.slice e),.osl o off sz n _,.v (.int _ j) =>
    if 0≤j∧j < n∧P.cellsOf e = sz∧sz≠0 then some (.ptr o (off + j.toNat * sz)) else none
  | some (.array n e),.ptr o off,.v (.int _ j) =>
    if 0≤j∧j < n∧P.cellsOf e≠0 then some (.ptr o (off + j.toNat * P.cellsOf e)) else none
  | some (.array n e),.rop cs,.v (.int _ j) =>
    if 0≤j∧j < n∧P.cellsOf e≠0 then some (.rop (cs.drop (j.toNat * P.cellsOf e))) else none
  | _,_,_=>none
def aindex (P : Program) (T : TypeId) (x i : AV) : Option AV :=
  match P.underlying T,x,i with
  | some (.array n e),.agg cs,.v (.int _ j) =>
    if 0≤j∧j < n∧P.cellsOf e≠0 then apart P e cs (j.toNat * P.cellsOf e) else none
  | some .string,.v (.string s),.v (.int _ j) =>
    if 0≤j then (match s[j.toNat]? with | some b=>some (byteV b) | none=>none) else none
  | _,_,_=>none
def optInt (d : Int) : Option AV→Option Int
  | none=>some d
  | some (.v (.int _ j))=>some j
  | _=>none
def aslice (P : Program) (T : TypeId) (x : AV) (lo hi mx : Option AV) : Option AV :=
  match P.underlying T,x with
  | some (.slice e),.sl sz n cs sp =>
    match optInt 0 lo,optInt n hi,optInt n mx with
    | some l,some h,some m =>
      if 0≤l∧l≤h∧h≤n∧(mx.isSome = true→h = m)∧(mx.isSome = true→hi.isSome = true)∧P.cellsOf e = sz∧sz≠0 then
        some (.sl sz (h.toNat - l.toNat) ((cs.take (h.toNat * sz)).drop (l.toNat * sz))
          (match sp with
            | .any=>.any
            | .no=>if mx.isSome = true then .full else .no
            | .full=>if mx.isSome = true then .full else if h = n then .full else .no
            | .new=>if mx.isSome = true then .full else if h = n then .new else .no
            | .own t g=>if mx.isSome = true then .full else if h = n then (if l = 0 then .own t g else .no) else .no))
      else none
    | _,_,_=>none
  | some (.slice e),.v (.slice none 0 0) =>
    match optInt 0 lo,optInt 0 hi,optInt 0 mx with
    | some l,some h,some m=>if l = 0∧h = 0∧m = 0∧P.cellsOf e≠0∧(mx.isSome = true→hi.isSome = true) then some (.v (.slice none 0 0)) else none
    | _,_,_=>none
  | some (.slice e),.osl o off sz n cap =>
    match optInt 0 lo,optInt n hi,mx with
    | some l,some h,none =>
      if 0≤l∧l≤h∧h≤cap∧P.cellsOf e = sz∧sz≠0 then
        some (.osl o (if (cap : Int) = l then off else off + l.toNat * sz) sz (h.toNat - l.toNat) (cap - l.toNat))
      else none
    | _,_,_=>none
  | some (.array n e),.ptr o off =>
    match optInt 0 lo,optInt n hi,mx with
    | some l,some h,none =>
      if 0≤l∧l≤h∧h≤n∧P.cellsOf e≠0 then
        some (.osl o (if (n : Int) = l then off else off + l.toNat * P.cellsOf e) (P.cellsOf e) (h.toNat - l.toNat) (n - l.toNat))
      else none
    | _,_,_=>none
  | some .string,.v (.string s) =>
    match optInt 0 lo,optInt s.size hi,mx with
    | some l,some h,none=>if 0≤l∧l≤h∧h≤s.size then some (.v (.string (s.extract l.toNat h.toNat))) else none
    | _,_,_=>none
  | _,_=>none
def abuiltin (P : Program) (b : Builtin) (argTypes : Array TypeId) (args : List AV) : Option AV :=
  match b,args with
  | .len,[x] =>
    match (argTypes[0]?).bind P.underlying,x with
    | some (.slice _),.sl _ n _ _=>some (.v (.int .i64 n))
    | some (.slice _),.osl _ _ _ n _=>some (.v (.int .i64 n))
    | some (.slice _),.v (.slice none n _)=>some (.v (.int .i64 n))
    | some .string,.v (.string s)=>some (.v (.int .i64 s.size))
    | some (.array n _),_=>some (.v (.int .i64 n))
    | _,_=>none
  | .cap,[x] =>
    match (argTypes[0]?).bind P.underlying,x with
    | some (.slice _),.osl _ _ _ _ c=>some (.v (.int .i64 c))
    | some (.slice _),.v (.slice none _ c)=>some (.v (.int .i64 c))
    | some (.slice _),.sl _ n _ .full=>some (.v (.int .i64 n))
    | some (.slice _),.sl _ n _ .new=>some (.v (.int .i64 n))
    | _,_=>none
  | .min,[.v (.int k x),.v (.int k' y)]=>if k = k' then some (.v (.int k (if y < x then y else x))) else none
  | .max,[.v (.int k x),.v (.int k' y)]=>if k = k' then some (.v (.int k (if y > x then y else x))) else none
  | _,_=>none
def aval (P : Program) (ρ : Operand→AV) : Op→Option AV
  | .move x=>some (ρ x)
  | .assign x=>some (ρ x)
  | .pick c a b=>match ρ c with | .v (.bool t)=>some (if t = true then ρ a else ρ b) | _=>none
  | .binOp op T x y _=>abin P op T (ρ x) (ρ y)
  | .unOp op _ x=>aun op (ρ x)
  | .convert src dst x=>aconv P src dst (ρ x)
  | .nilCheck x =>
    match ρ x with
    | .ptr o off=>some (.ptr o off)
    | .rop cs=>some (.rop cs)
    | .clo f cs=>some (.clo f cs)
    | .v (.func (.func f) a b)=>some (.v (.func (.func f) a b))
    | _=>none
  | .fieldAddr S x i =>
    match fieldOf P S i with
    | some (off,T) =>
      if P.cellsOf T = 0 then none else
      match ρ x with
      | .ptr o a=>some (.ptr o (a + off))
      | .rop cs=>some (.rop (cs.drop off))
      | _=>none
    | none=>none
  | .field S x i =>
    match fieldOf P S i,ρ x with
    | some (off,T),.agg cs=>if P.cellsOf T = 0 then none else apart P T cs off
    | _,_=>none
  | .indexAddr T x i=>aindexAddr P T (ρ x) (ρ i)
  | .index T x i=>aindex P T (ρ x) (ρ i)
  | .load T x=>match ρ x with | .rop cs=>if P.cellsOf T = 0 then none else aload P T cs | _=>none
  | .slice T x lo hi mx=>aslice P T (ρ x) (lo.map ρ) (hi.map ρ) (mx.map ρ)
  | .extract t i=>match ρ t with | .tup cs=>cs[i]? | _=>none
  | .build T parts =>
    match P.underlying T,zcells P T with
    | some (.struct _),some z =>
      if fieldsOk P T = true then (afill (placeOf P T) z (parts.toList.map fun p=>(p.1,ρ p.2))).map .agg else none
    | some (.array _ e),some z =>
      if P.cellsOf e = 0 then none else (afill (fun i=>some (i * P.cellsOf e,P.cellsOf e)) z (parts.toList.map fun p=>(p.1,ρ p.2))).map .agg
    | _,_=>none
  | .buildSlice T len parts =>
    match P.underlying T with
    | some (.slice e) =>
      match zcells P e with
      | some z =>
        if P.cellsOf e = 0∨len * P.cellsOf e > 2 ^ 24∨z.length≠P.cellsOf e then none else
        (afill (fun i=>some (i * P.cellsOf e,P.cellsOf e)) (zrow (len * P.cellsOf e) z) (parts.toList.map fun p=>(p.1,ρ p.2))).map
          fun cs=>.sl (P.cellsOf e) len cs .new
      | none=>none
    | _=>none
  | .makeFunc (.func f) first captured=>if first.isEmpty = true then some (.clo f (captured.toList.map ρ)) else none
  | .call { callee:=.builtin b,args,argTypes }=>abuiltin P b argTypes (args.toList.map ρ)
  | _=>none
end Go.AM
namespace Go.AM
open Go Go.RowKit
variable {P : Program} {Γ : Nat→List AV} {G : Gh} {s : AS} {w : World}
theorem info_of_cells {t : TypeId} (h : P.cellsOf t≠0) : ∃ i,P.info? t = some i:=by
  cases hi : P.info? t with
  | some i=>exact ⟨i,rfl⟩
  | none=>simp [Program.cellsOf,hi] at h
theorem run_sizeOf' {t : TypeId} (h : P.cellsOf t≠0) (w : World) : (sizeOf t).run P w = .ok (P.cellsOf t) w:=by
  obtain ⟨i,hi⟩:=info_of_cells h
  simp [sizeOf,typeInfo,hi,Program.cellsOf]
theorem run_sizeOf_some {t : TypeId} (h : (P.info? t).isSome = true) (w : World) : (sizeOf t).run P w = .ok (P.cellsOf t) w:=by
  obtain ⟨i,hi⟩:=Option.isSome_iff_exists.1 h
  simp [sizeOf,typeInfo,hi,Program.cellsOf]
theorem run_isAgg' {t : TypeId} {b : Bool} (h : isAggT P t = some b) (w : World) : (isAgg t).run P w = .ok b w:=by
  unfold isAggT at h
  cases hu : P.underlying t with
  | none=>simp [hu] at h
  | some d=>cases d <;> simp [hu] at h <;> simp [isAgg,run_underlying hu,← h]
theorem add_spot (b o j : Nat) : (⟨b,o,none⟩ : Addr).add j = ⟨b,o + j,none⟩:=by unfold Addr.add; split <;> simp_all
theorem SRel.roAt (h : SRel Γ G s w) {b off : Nat} {vs : List Value} (k : RoAt G b off vs) : ∀ (j : Nat) (u : Value),vs[j]? = some u→w.cell? ((⟨b,off,none⟩ : Addr).add j) = some u:=by
  intro j u hj
  rw [add_spot]
  exact h.ro _ _ _ (k j u hj)
theorem run_loadVar' {t : TypeId} {b off : Nat} {cs : List AV} {vs : List Value} {r : AV} (hl : aload P t cs = some r) (hz : P.cellsOf t≠0) (hv : VRels G cs vs)
    (hc : ∀ (j : Nat) (u : Value),vs[j]? = some u→w.cell? ((⟨b,off,none⟩ : Addr).add j) = some u) :
    ∃ v,(loadVar t ⟨b,off,none⟩).run P w = .ok v w∧VRel G r v:=by
  unfold aload at hl
  cases hA : isAggT P t with
  | none=>simp [hA] at hl
  | some b0 =>
    cases b0 with
    | true =>
      simp only [hA] at hl
      split at hl
      · rename_i hle
        simp at hl
        subst hl
        have hlen:=hv.length
        refine ⟨.agg (vs.take (P.cellsOf t)).toArray,?_,by simp only [VRel]; exact ⟨_,rfl,hv.take _⟩⟩
        simp only [loadVar,Sem.run_bind,run_isAgg' hA,Result.andThen_ok,if_true,run_sizeOf' hz]
        have:=run_loadCells_list (P:=P) w ⟨b,off,none⟩ (vs.take (P.cellsOf t)) (fun j u hj=>hc j u (by
          rw [List.getElem?_take] at hj
          split at hj
          · exact hj
          · cases hj))
        have hl2 : (vs.take (P.cellsOf t)).length = P.cellsOf t:=by simp; omega
        rw [hl2] at this
        simp [this]
      · cases hl
    | false =>
      simp only [hA] at hl
      obtain ⟨u,h1,h2⟩:=hv.get 0 r hl
      refine ⟨u,?_,h2⟩
      have:=hc 0 u h1
      simp only [Addr.add_zero'] at this
      simp [loadVar,run_isAgg' hA,this]
theorem VRels_of_cells {r : AV} {v : Value} (h : VRel G r v) : VRels G r.cells v.cells.toList:=by
  cases r with
  | agg cs =>
    simp only [VRel] at h
    obtain ⟨vs,rfl,h2⟩:=h
    simpa [AV.cells,Value.cells] using h2
  | v x =>
    simp only [VRel] at h
    subst h
    cases v <;> first
      | (simp only [AV.cells,Value.cells,VRels]; exact ⟨_,[],rfl,by simp [VRel],rfl⟩)
      | (simp only [AV.cells,Value.cells]; exact VRels.vals _)
  | sl sz n cs sp =>
    have h':=h
    simp only [VRel] at h'
    rcases h' with ⟨b,off,cap,vs,rfl,_⟩ | ⟨rfl,rfl,a,cap,rfl,_⟩ | ⟨rfl,rfl,rfl,rfl⟩ <;>
      (simp only [AV.cells,Value.cells,VRels]; exact ⟨_,[],rfl,h,rfl⟩)
  | rop cs =>
    have h':=h
    simp only [VRel] at h'
    obtain ⟨b,off,vs,rfl,_⟩:=h'
    simp only [AV.cells,Value.cells,VRels]
    exact ⟨_,[],rfl,h,rfl⟩
  | ptr o off =>
    have h':=h
    simp only [VRel] at h'
    obtain ⟨b,_,rfl⟩:=h'
    simp only [AV.cells,Value.cells,VRels]
    exact ⟨_,[],rfl,h,rfl⟩
  | osl o off sz n cap =>
    have h':=h
    simp only [VRel] at h'
    obtain ⟨b,_,rfl,_⟩:=h'
    simp only [AV.cells,Value.cells,VRels]
    exact ⟨_,[],rfl,h,rfl⟩
  | tup cs =>
    have h':=h
    simp only [VRel] at h'
    obtain ⟨vs,rfl,_⟩:=h'
    simp only [AV.cells,Value.cells,VRels]
    exact ⟨_,[],rfl,h,rfl⟩
  | clo f cs =>
    have h':=h
    simp only [VRel] at h'
    obtain ⟨vs,rfl,_⟩:=h'
    simp only [AV.cells,Value.cells,VRels]
    exact ⟨_,[],rfl,h,rfl⟩
theorem run_part' {t : TypeId} {cs : List AV} {vs : List Value} {off : Nat} {r : AV} (h : apart P t cs off = some r) (hz : P.cellsOf t≠0) (hv : VRels G cs vs) :
    ∃ v,(part t vs.toArray off).run P w = .ok v w∧VRel G r v:=by
  unfold apart at h
  cases hA : isAggT P t with
  | none=>simp [hA] at h
  | some b0 =>
    cases b0 with
    | true =>
      simp only [hA] at h
      simp at h
      subst h
      refine ⟨.agg ((vs.drop off).take (P.cellsOf t)).toArray,?_,by simp only [VRel]; exact ⟨_,rfl,(hv.drop _).take _⟩⟩
      simp only [part,Sem.run_bind,run_isAgg' hA,Result.andThen_ok,if_true,run_sizeOf' hz]
      simp [List.extract_eq_take_drop]
    | false =>
      simp only [hA] at h
      obtain ⟨u,h1,h2⟩:=hv.get off r h
      refine ⟨u,?_,h2⟩
      simp [part,run_isAgg' hA,h1]
def Gives (Γ : Nat→List AV) (G : Gh) (s : AS) (r : AV) (R : Result Next) : Prop :=
  ∃ G' v w',R = .ok (.value v) w'∧G.le G'∧SRel Γ G' s w'∧VRel G' r v
theorem Gives.same {r : AV} {v : Value} {R : Result Next} (hs : SRel Γ G s w) (h1 : R = .ok (.value v) w) (h2 : VRel G r v) : Gives Γ G s r R :=
  ⟨G,v,w,h1,.refl G,hs,h2⟩
section binops
theorem run_intOp (op : BinOp) (k : IntKind) (a b : Int) (r : AV) (h : aint op k a b = some r) (T : TypeId) (hne : op≠.shl∧op≠.shr) :
    ∃ v,(binOp op T (.int k a) (.int k b)).run P w = .ok v w∧VRel G r v:=by
  cases op <;> simp [aint] at h hne <;> first
    | (subst h; exact ⟨_,by simp [binOp,Op.intArith,Op.intBits,Op.intCmp]; rfl,by simp [VRel,iadd,isub,imul,iand,ior,ixor,iandnot]⟩)
    | (obtain ⟨h1,h2⟩:=h; subst h2; exact ⟨_,by simp [binOp,Op.intDiv,h1]; rfl,by simp [VRel,iquo,irem]⟩)
theorem run_shiftOp (op : BinOp) (k k' : IntKind) (a b : Int) (r : AV) (h : ashift op k a b = some r) (T : TypeId) :
    ∃ v,(binOp op T (.int k a) (.int k' b)).run P w = .ok v w∧VRel G r v:=by
  unfold ashift at h
  split at h
  · cases h
  · rename_i hb
    cases op <;> simp at h <;>
      (subst h; exact ⟨_,by simp only [binOp,Op.shift]; rw [if_neg hb]; rfl,by simp [VRel,ishl,ishr]⟩)
end binops
theorem eqGuard_int (op : BinOp) (t : TypeId) (x y : Operand) (k k' : IntKind) (a b : Int) (w : World) : (eqGuard op t x y (.int k a) (.int k' b)).run P w = .ok () w:=by
  cases op <;> simp [eqGuard]
theorem eqGuard_bool (op : BinOp) (t : TypeId) (x y : Operand) (a b : Bool) (w : World) : (eqGuard op t x y (.bool a) (.bool b)).run P w = .ok () w:=by
  cases op <;> simp [eqGuard]
theorem eqGuard_string (op : BinOp) (t : TypeId) (x y : Operand) (a b : ByteArray) (w : World) : (eqGuard op t x y (.string a) (.string b)).run P w = .ok () w:=by
  cases op <;> simp [eqGuard]
theorem eqGuard_slice (op : BinOp) (t : TypeId) (x y : Operand) (a b : Option Addr) (n c n' c' : Nat) (w : World) : (eqGuard op t x y (.slice a n c) (.slice b n' c')).run P w = .ok () w:=by
  cases op <;> simp [eqGuard]
theorem eqGuard_pointer (op : BinOp) (t : TypeId) (x y : Operand) (a b : Option Addr) (w : World) : (eqGuard op t x y (.pointer a) (.pointer b)).run P w = .ok () w:=by
  cases op <;> simp [eqGuard]
theorem run_strOp (op : BinOp) (x y : ByteArray) (r : AV) (h : astr op x y = some r) (T : TypeId) :
    ∃ v,(binOp op T (.string x) (.string y)).run P w = .ok v w∧VRel G r v:=by
  cases op <;> simp [astr] at h
  case add =>
    obtain ⟨h1,h2⟩:=h
    subst h2
    refine ⟨_,?_,by simp [VRel]; rfl⟩
    have : ¬ (((x.size + y.size : Nat) : Int) > IntKind.i64.max):=by
      have e : IntKind.i64.max = 9223372036854775807:=rfl
      rw [e]; push_cast; omega
    simp only [binOp,Op.stringOp]
    rw [if_neg this]
    rfl
  all_goals (subst h; exact ⟨_,by simp [binOp,Op.stringOp]; rfl,by simp [VRel]⟩)
theorem run_equal_of {T : TypeId} {x y : Value} {r : Result Bool} (h : ∀ d,(Op.equalIn (d + 1) T x y).run P w = r) : (Op.equal T x y).run P w = r:=h 9999
theorem run_equal_slice {T : TypeId} (hT : isSliceT P T = true) (a b : Option Addr) (n c n' c' : Nat) (hab : a = none∨b = none) :
    (Op.equal T (.slice a n c) (.slice b n' c')).run P w = .ok (a.isNone && b.isNone) w:=by
  unfold isSliceT at hT
  cases hu : P.underlying T with
  | none=>simp [hu] at hT
  | some d =>
    cases d <;> simp [hu] at hT
    refine run_equal_of fun d=>?_
    rcases hab with rfl | rfl
    · cases b <;> simp [Op.equalIn,run_underlying hu]
    · cases a <;> simp [Op.equalIn,run_underlying hu]
theorem run_equal_ptr {T : TypeId} (hT : isPtrT P T = true) (a : Option Addr) :
    (Op.equal T (.pointer a) (.pointer none)).run P w = .ok a.isNone w:=by
  unfold isPtrT at hT
  cases hu : P.underlying T with
  | none=>simp [hu] at hT
  | some d =>
    cases d <;> simp [hu] at hT
    refine run_equal_of fun d=>?_
    cases a <;> simp [Op.equalIn,run_underlying hu]
theorem run_sliceNil {op : BinOp} {T : TypeId} {a b : Option Addr} {n c n' c' : Nat} {r : AV} {t : Bool} (hT : isSliceT P T = true) (h : anil op t = some r)
    (hab : a = none∨b = none) (ht : (a.isNone && b.isNone) = t) :
    ∃ v,(binOp op T (.slice a n c) (.slice b n' c')).run P w = .ok v w∧VRel G r v:=by
  cases op <;> simp [anil] at h <;> subst h
  · exact ⟨.bool t,by simp [binOp,run_equal_slice hT a b n c n' c' hab,ht],by simp [VRel]⟩
  · exact ⟨.bool !t,by simp [binOp,run_equal_slice hT a b n c n' c' hab,← ht],by simp [VRel]⟩
theorem run_ptrNil {op : BinOp} {T : TypeId} {a : Option Addr} {r : AV} {t : Bool} (hT : isPtrT P T = true) (h : anil op t = some r) (hab : a.isNone = t) :
    ∃ v,(binOp op T (.pointer a) (.pointer none)).run P w = .ok v w∧VRel G r v:=by
  cases op <;> simp [anil] at h <;> subst h
  · exact ⟨.bool t,by simp [binOp,run_equal_ptr hT a,hab],by simp [VRel]⟩
  · exact ⟨.bool !t,by simp [binOp,run_equal_ptr hT a,hab],by simp [VRel]⟩
theorem run_equal_ptrN {T : TypeId} (hT : isPtrT P T = true) (a : Option Addr) :
    (Op.equal T (.pointer none) (.pointer a)).run P w = .ok a.isNone w:=by
  unfold isPtrT at hT
  cases hu : P.underlying T with
  | none=>simp [hu] at hT
  | some d =>
    cases d <;> simp [hu] at hT
    refine run_equal_of fun d=>?_
    cases a <;> simp [Op.equalIn,run_underlying hu]
theorem run_ptrNilN {op : BinOp} {T : TypeId} {a : Option Addr} {r : AV} {t : Bool} (hT : isPtrT P T = true) (h : anil op t = some r) (hab : a.isNone = t) :
    ∃ v,(binOp op T (.pointer none) (.pointer a)).run P w = .ok v w∧VRel G r v:=by
  cases op <;> simp [anil] at h <;> subst h
  · exact ⟨.bool t,by simp [binOp,run_equal_ptrN hT a,hab],by simp [VRel]⟩
  · exact ⟨.bool !t,by simp [binOp,run_equal_ptrN hT a,hab],by simp [VRel]⟩
theorem run_eqFields {d : Nat} {XU XV : Array Value} : ∀ (fs : List Field) (i : Nat) (as bs : List AV) (us vs : List Value) (b : Bool),aeqF P i fs as bs = some b→VRels G as us→VRels G bs vs→(∀ j u,us[j]? = some u→XU[i + j]? = some u)→(∀ j u,vs[j]? = some u→XV[i + j]? = some u) →
    (Op.eqFields (d + 1) XU XV fs).run P w = .ok b w
  | [],i,as,bs,us,vs,b,h,_,_,_,_=>by
    simp only [aeqF,Option.some.injEq] at h
    subst h
    simp [Op.eqFields]
  | f :: fs,i,as,bs,us,vs,b,h,hu,hv,h1,h2=>by
    unfold aeqF at h
    split at h
    · rename_i e; cases e
    · rename_i i _ _ _ _ f' fs' k a as' k' c bs' e
      cases e
      simp only [VRels,VRel] at hu hv
      obtain ⟨_,us',rfl,rfl,hu⟩:=hu
      obtain ⟨_,vs',rfl,rfl,hv⟩:=hv
      split at h
      · rename_i k0 hT
        split at h
        · rename_i hc
          obtain ⟨rfl,hn,ho⟩:=hc
          cases hr : aeqF P (i + 1) fs as' bs' with
          | none=>rw [hr] at h; cases h
          | some r =>
            rw [hr] at h
            simp only [Option.map_some,Option.some.injEq] at h
            subst h
            have ih:=run_eqFields (d:=d) (XU:=XU) (XV:=XV) fs (i + 1) as' bs' us' vs' r hr hu hv (fun j u q=>by rw [Nat.add_assoc,Nat.add_comm 1]; exact h1 (j + 1) u (by simpa using q)) (fun j u q=>by rw [Nat.add_assoc,Nat.add_comm 1]; exact h2 (j + 1) u (by simpa using q))
            have g1:=h1 0 _ rfl
            have g2:=h2 0 _ rfl
            simp only [Nat.add_zero] at g1 g2
            simp only [Op.eqFields,hn,ne_eq,not_false_eq_true,if_true,Sem.run_bind,ho]
            have p1 : (part f.type XU i).run P w = .ok (.int k a) w:=by simp [part,isAgg,run_underlying hT,g1]
            have p2 : (part f.type XV i).run P w = .ok (.int k c) w:=by simp [part,isAgg,run_underlying hT,g2]
            rw [p1,Result.andThen_ok,p2,Result.andThen_ok,run_equalIn_int w d f.type k k0 a c hT,Result.andThen_ok]
            cases hac : (a == c)
            · simp
            · simpa using ih
        · cases h
      · cases h
    · cases h
theorem run_aeqS {op : BinOp} {T : TypeId} {xs ys : List AV} {us vs : List Value} {r : AV} (ox oy : Operand) (h : aeqS P T op xs ys = some r) (hx : VRels G xs us) (hy : VRels G ys vs) :
    (eqGuard op T ox oy (.agg us.toArray) (.agg vs.toArray)).run P w = .ok () w∧∃ z,(binOp op T (.agg us.toArray) (.agg vs.toArray)).run P w = .ok z w∧VRel G r z:=by
  unfold aeqS at h
  split at h
  · rename_i hc
    refine ⟨run_eqGuard_agg w op T ox oy _ _ hc.2,?_⟩
    split at h
    · rename_i fs hT
      split at h
      · rename_i b hb
        have hf : P.fieldsOf T = fs:=by simp [Program.fieldsOf,hT]
        have hq : (Op.equalIn 10000 T (.agg us.toArray) (.agg vs.toArray)).run P w = .ok b w:=by
          rw [run_equalIn_struct w 9999 T _ _ (by rw [hf]; exact hT) hc.1,hf]
          exact run_eqFields (d:=9998) fs.toList 0 xs ys us vs b hb hx hy (fun j u q=>by simpa using q) (fun j u q=>by simpa using q)
        cases op <;> simp [anil] at h <;> subst h
        · exact ⟨.bool b,by rw [run_eql_struct,hq]; rfl,by simp [VRel]⟩
        · exact ⟨.bool !b,by rw [run_neq_struct,hq]; rfl,by simp [VRel]⟩
      · cases h
    · cases h
  · cases h
theorem run_abin {op : BinOp} {T : TypeId} {x y : AV} {u v : Value} {r : AV} (ox oy : Operand) (h : abin P op T x y = some r) (hx : VRel G x u) (hy : VRel G y v) :
    (eqGuard op T ox oy u v).run P w = .ok () w∧∃ z,(binOp op T u v).run P w = .ok z w∧VRel G r z:=by
  unfold abin at h
  split at h
  · rename_i k a k' b
    simp only [VRel] at hx hy
    subst hx hy
    refine ⟨eqGuard_int ..,?_⟩
    split at h
    · exact run_shiftOp _ _ _ _ _ _ h T
    · exact run_shiftOp _ _ _ _ _ _ h T
    · rename_i op h1 h2
      split at h
      · rename_i hk
        subst hk
        exact run_intOp _ _ _ _ _ h T ⟨h1,h2⟩
      · cases h
  · rename_i a b
    simp only [VRel] at hx hy
    subst hx hy
    refine ⟨eqGuard_bool ..,?_⟩
    unfold abool at h
    split at h
    · rename_i hu
      simp at h; subst h
      exact ⟨_,by simp only [binOp,Sem.run_bind,run_equal_of (P:=P) (w:=w) (T:=T) (x:=.bool a) (y:=.bool b) (r:=.ok (a == b) w) (fun d=>by simp [Op.equalIn,run_underlying hu])]; rfl,by simp [VRel]⟩
    · rename_i hu
      simp at h; subst h
      exact ⟨_,by simp only [binOp,Sem.run_bind,run_equal_of (P:=P) (w:=w) (T:=T) (x:=.bool a) (y:=.bool b) (r:=.ok (a == b) w) (fun d=>by simp [Op.equalIn,run_underlying hu])]; rfl,by simp [VRel]⟩
    · cases h
  · simp only [VRel] at hx hy
    subst hx hy
    exact ⟨eqGuard_string ..,run_strOp _ _ _ _ h T⟩
  · simp only [VRel] at hx hy
    subst hx hy
    split at h
    · rename_i hT
      exact ⟨eqGuard_slice ..,run_sliceNil hT h (.inl rfl) rfl⟩
    · cases h
  · simp only [VRel] at hx hy
    subst hy
    rcases hx with ⟨b,off,cap,vs,rfl,_⟩ | ⟨rfl,rfl,a,cap,rfl,_⟩ | ⟨rfl,rfl,rfl,rfl⟩
    · split at h
      · rename_i hT
        exact ⟨eqGuard_slice ..,run_sliceNil hT.1 h (.inr rfl) rfl⟩
      · cases h
    · split at h
      · rename_i hT
        exact ⟨eqGuard_slice ..,run_sliceNil hT.1 h (.inr rfl) rfl⟩
      · cases h
    · rw [if_neg (by simp [Sp.isAny])] at h
      cases h
  · simp only [VRel] at hx hy
    obtain ⟨b,_,rfl,_⟩:=hx
    subst hy
    split at h
    · rename_i hT
      exact ⟨eqGuard_slice ..,run_sliceNil hT h (.inr rfl) rfl⟩
    · cases h
  · simp only [VRel] at hx hy
    subst hx hy
    split at h
    · rename_i hT
      exact ⟨eqGuard_pointer ..,run_ptrNil hT h rfl⟩
    · cases h
  · simp only [VRel] at hx hy
    obtain ⟨b,_,rfl⟩:=hx
    subst hy
    split at h
    · rename_i hT
      exact ⟨eqGuard_pointer ..,run_ptrNil hT h rfl⟩
    · cases h
  · simp only [VRel] at hx hy
    obtain ⟨b,_,rfl⟩:=hy
    subst hx
    split at h
    · rename_i hT
      exact ⟨eqGuard_pointer ..,run_ptrNilN hT h rfl⟩
    · cases h
  · simp only [VRel] at hx hy
    obtain ⟨us,rfl,hx⟩:=hx
    obtain ⟨vs,rfl,hy⟩:=hy
    exact run_aeqS ox oy h hx hy
  · cases h
theorem run_aun {op : UnOp} {x : AV} {u : Value} {r : AV} (h : aun op x = some r) (hx : VRel G x u) : ∃ z,(Op.unary op u).run P w = .ok z w∧VRel G r z:=by
  unfold aun at h
  split at h
  · simp only [VRel] at hx; subst hx
    cases op <;> simp at h <;> subst h
    · exact ⟨_,by simp [Op.unary,Op.intArith]; rfl,by simp [VRel,ineg]⟩
    · exact ⟨_,by simp only [Op.unary,Op.intBits]; rfl,by simp [VRel,inot]⟩
  · simp only [VRel] at hx; subst hx
    cases op <;> simp at h
    subst h
    exact ⟨_,by simp [Op.unary]; rfl,by simp [VRel]⟩
  · cases h
theorem bytes_of_cells : ∀ {cs : List AV} {vs : List Value},VRels G cs vs→cs.all isByte = true →
    ∃ xs : List Int,vs = xs.map (Value.int .u8)∧cs.map byteOf = xs.map (fun n=>UInt8.ofNat n.toNat)
  | [],vs,h,_=>by simp only [VRels] at h; subst h; exact ⟨[],rfl,rfl⟩
  | c :: cs,vs,h,ha=>by
    simp only [VRels] at h
    obtain ⟨u,us,rfl,h2,h3⟩:=h
    simp only [List.all_cons,Bool.and_eq_true] at ha
    obtain ⟨xs,rfl,h5⟩:=bytes_of_cells h3 ha.2
    have h1:=ha.1
    unfold isByte at h1
    split at h1
    · rename_i n
      simp only [VRel] at h2
      subst h2
      exact ⟨n :: xs,rfl,by simp [byteOf,h5]⟩
    · cases h1
theorem SRel.worldEq {w' : World} (h : SRel Γ G s w) (hc : ∀ b j,w'.cell? ⟨b,j,none⟩ = w.cell? ⟨b,j,none⟩)
    (hf : ∀ b j,Kn G s b→w.cell? ⟨b,j,none⟩≠none→w'.frozen? ⟨b,j,none⟩ = w.frozen? ⟨b,j,none⟩)
    (hsz : w.heap.size = w'.heap.size) (hb : Below G.B w w') (hkp : Keeps G.w0 w') (hsoft : Soft (Kn G s) w') (hmp : ∀ (b : Nat) (o : Obj),Mapish o→w.heap[b]? = some o→w'.heap[b]? = some o) : SRel Γ G s w' where
  maps b l hb:=by
    obtain ⟨m1,ob,m2,m3⟩:=h.maps b l hb
    exact ⟨m1,ob,hmp b ob m3.mapish m2,m3⟩
  ro b j u hu:=by rw [hc]; exact h.ro b j u hu
  objs o cs ho:=by
    obtain ⟨b,vs,h1,h2,h3,h4⟩:=h.objs o cs ho
    refine ⟨b,vs,h1,h2,h3,fun j u hu=>?_⟩
    obtain ⟨k1,k2,k3⟩:=h4 j u hu
    exact ⟨by rw [hc]; exact k1,by rw [hf b j (.inl ⟨o,h1⟩) (by rw [k1]; simp)]; exact k2,k3⟩
  objLt o b hb:=by rw [← hsz]; exact h.objLt o b hb
  inj:=h.inj
  own t e he:=by
    obtain ⟨b,st,en,h1,h2,h3,h4,h5,h6⟩:=h.own t e he
    refine ⟨b,st,en,h1,h2,h3,fun j hj hj'=>?_,h5,by omega⟩
    obtain ⟨⟨u,k1⟩,k2,k3⟩:=h4 j hj hj'
    exact ⟨⟨u,by rw [hc]; exact k1⟩,by rw [hf b j (.inr ⟨t,e,_,he,h1⟩) (by rw [k1]; simp)]; exact k2,k3⟩
  ownInj:=h.ownInj
  ownLast:=h.ownLast
  freshO:=h.freshO
  freshT:=h.freshT
  below:=h.below.trans hb
  others:=hkp
  base:=by have:=h.base; omega
  glob:=h.glob
  soft:=hsoft
theorem cell_freeze (w : World) (a : Addr) (n b j : Nat) : (w.freeze a n).cell? ⟨b,j,none⟩ = w.cell? ⟨b,j,none⟩:=by
  unfold World.freeze
  split
  · rfl
  · simp only [World.cell?,Array.getElem?_modify]
    by_cases hb : a.block = b
    · simp only [hb,if_true]
      cases hh : w.heap[b]? with
      | none=>simp
      | some x=>cases x <;> simp
    · simp [hb]
theorem frozen_freeze_other (w : World) (a : Addr) (n b j : Nat) (h : a.block≠b) : (w.freeze a n).frozen? ⟨b,j,none⟩ = w.frozen? ⟨b,j,none⟩:=by
  unfold World.freeze
  split
  · rfl
  · simp only [World.frozen?,Array.getElem?_modify]
    rw [if_neg h]
theorem frozen_freeze_end (w : World) (c : Array Value) (T : TypeId) (j : Nat) (hj : j < c.size) :
    ((w.alloc (.cells c T)).freeze ⟨w.heap.size,c.size,none⟩ 1).frozen? ⟨w.heap.size,j,none⟩ = false:=by
  unfold World.freeze
  rw [if_neg (by omega)]
  simp only [World.frozen?,Array.getElem?_modify,if_true]
  have : (w.alloc (.cells c T)).heap[w.heap.size]? = some (.cells c T):=by
    show (w.heap.push _)[w.heap.size]? = _
    rw [Array.getElem?_push_size]
  rw [this]
  simp
  omega
theorem size_freeze (w : World) (a : Addr) (n : Nat) : (w.freeze a n).heap.size = w.heap.size:=by
  unfold World.freeze; split <;> simp
theorem below_freeze {B : Nat} (w : World) (a : Addr) (n : Nat) (h : B≤a.block) : Below B w (w.freeze a n):=by
  unfold World.freeze
  split
  · exact Below.refl _ _
  · refine ⟨rfl,rfl,rfl,by simp,fun k hk=>?_⟩
    rw [Array.getElem?_modify,if_neg (by omega)]
theorem soft_freeze {K : Nat→Prop} {w : World} (h : Soft K w) {b n : Nat} (hn : ∀ c T fr,w.heap[b]? = some (.cells c T fr)→c.size≤n) :
    ∀ b' c T lo hi,K b'→(w.freeze ⟨b,n,none⟩ 1).heap[b']? = some (.cells c T (lo,hi))→lo = hi∨c.size≤lo:=by
  intro b' c T lo hi hB hc
  unfold World.freeze at hc
  rw [if_neg (by omega)] at hc
  simp only [Array.getElem?_modify] at hc
  split at hc
  · rename_i hbb
    cases hh : w.heap[b']? with
    | none=>simp [hh] at hc
    | some o =>
      simp only [hh,Option.map_some,Option.some.injEq] at hc
      cases o with
      | cells c' T' fr =>
        obtain ⟨lo',hi'⟩:=fr
        simp only [Obj.cells.injEq] at hc
        obtain ⟨rfl,rfl,h3⟩:=hc
        have h1:=h b' c' T' lo' hi' hB hh
        have h2:=hn c' T' _ (hbb ▸ hh)
        split at h3
        · simp only [Prod.mk.injEq] at h3
          obtain ⟨rfl,rfl⟩:=h3
          exact .inr h2
        · rename_i hne
          simp only [beq_iff_eq] at hne
          simp only [Prod.mk.injEq] at h3
          obtain ⟨rfl,rfl⟩:=h3
          have : c'.size≤lo':=h1.resolve_left hne
          exact .inr (by omega)
      | _=>cases hc
  · exact h b' c T lo hi hB hc
theorem SRel.markEnd (h : SRel Γ G s w) {b off : Nat} (hB : G.B≤b) : ∃ w',(markStringish ⟨b,off,none⟩).run P w = .ok () w'∧SRel Γ G s w':=by
  cases hh : w.heap[b]? with
  | none=>exact ⟨w,by simp [markStringish,run_shape,World.shape?,hh],h⟩
  | some o =>
    cases o with
    | cells c T fr =>
      obtain ⟨lo,hi⟩:=fr
      refine ⟨w.freeze ⟨b,c.size,none⟩ 1,by simp [markStringish,run_shape,World.shape?,hh],?_⟩
      have hs:=fun hk=>h.soft b c T lo hi hk hh
      refine h.worldEq (fun b j=>cell_freeze ..) (fun b' j hk hc=>?_) (size_freeze ..).symm (below_freeze _ _ _ hB) (h.others.trans (Keeps.freeze _ _ _)) (soft_freeze h.soft (fun c' T' fr' h'=>by rw [hh] at h'; cases h'; exact Nat.le_refl _)) (fun _ _ ho h=>map_freeze ho.nc h)
      by_cases e : b = b'
      · subst e
        have hs:=hs hk
        have hj : j < c.size:=by
          rcases Nat.lt_or_ge j c.size with h' | h'
          · exact h'
          · exact absurd (by simp [World.cell?,hh,Array.getElem?_eq_none h']) hc
        unfold World.freeze
        rw [if_neg (by omega)]
        simp only [World.frozen?,Array.getElem?_modify,if_true,hh,Option.map_some]
        by_cases hl : lo = hi
        · subst hl
          simp only [beq_self_eq_true,if_true]
          rw [Bool.eq_iff_iff]
          simp only [Bool.and_eq_true,decide_eq_true_eq]
          omega
        · have : c.size≤lo:=hs.resolve_left hl
          rw [if_neg (by simpa using hl)]
          rw [Bool.eq_iff_iff]
          simp only [Bool.and_eq_true,decide_eq_true_eq]
          omega
      · exact frozen_freeze_other _ _ _ _ _ e
    | _=>exact ⟨w,by simp [markStringish,run_shape,World.shape?,hh],h⟩
theorem SRel.newRoTok (h : SRel Γ G s w) (vs us : List Value) (T : TypeId) (t e : Nat) (ht : ∀ e',e≤e'→G.tok t e' = none) :
    ∃ G',G.le G'∧SRel Γ G' (s.gain t e) (w.alloc (.cells (vs ++ us).toArray T))∧RoAt G' w.heap.size 0 vs∧G'.tok t e = some (w.heap.size,vs.length,(vs ++ us).length)∧(∀ o,G'.obj o = G.obj o)∧G.B = G'.B:=by
  obtain ⟨hle,hS⟩:=h.newRo vs (vs ++ us).toArray T (fun j u hu=>by
    have : j < vs.length:=by
      rcases Nat.lt_or_ge j vs.length with h | h
      · exact h
      · simp [List.getElem?_eq_none h] at hu
    simp [List.getElem?_append_left this,hu])
  have hg:=hS.gain (t:=t) (e:=e) (b:=w.heap.size) (st:=vs.length) (en:=(vs ++ us).length) (ht e (Nat.le_refl _)) (fun e' he'=>ht e' (by omega)) (by simp) h.base
    (fun j hj hj'=>by
      refine ⟨⟨(vs ++ us)[j]'hj',by rw [World.cell?_alloc_new]; simp⟩,World.frozen?_alloc_new ..,?_⟩
      simp only [Gh.addRo]
      rw [if_neg (by omega)]
      exact not_ro_new h j)
    (fun o ho=>absurd (h.objLt o _ ho) (Nat.lt_irrefl _)) (by simp)
    (fun t' e' st' en' hne ho hk=>by
      obtain ⟨b1,st1,en1,k1,_,_,_,_,k6⟩:=h.own t' e' ho
      have : G.tok t' e' = some (w.heap.size,st',en'):=hk
      rw [k1] at this
      simp at this
      omega)
    (fun c T' lo hi hc=>by rw [heapNew] at hc; cases hc; exact .inl rfl)
  exact ⟨_,hle.trans hg.1,hg.2,(RoAt.added G w.heap.size 0 vs).mono hg.1,by simp [Gh.addTok],fun _=>rfl,rfl⟩
def bvals (l : List UInt8) : List Value:=l.map fun b=>Value.int .u8 b.toNat
def zvals (n : Nat) : List Value:=List.replicate n (Value.int .u8 0)
theorem VRels_bytes (l : List UInt8) : VRels G (l.map byteV) (bvals l):=by
  unfold bvals
  induction l with
  | nil=>simp [VRels]
  | cons b l ih=>simp only [List.map_cons,VRels]; exact ⟨_,_,rfl,by simp [byteV,VRel],ih⟩
theorem cut_appendCap (need old : Nat) (e : TypeId) (x : Nat) : need≤(Question.appendCap need old e).cut x:=by simp [Question.cut]
theorem run_stringToBytes (e : TypeId) (b : ByteArray) (w : World) : ∃ cap : Nat,b.size≤cap ∧
    (Conv.stringToBytes e b).run P w = .ok (.slice (some ⟨w.heap.size,0,none⟩) b.size cap)
      ((w.drew.alloc (.cells (bvals b.data.toList ++ zvals (cap - b.size)).toArray e)).freeze ⟨w.heap.size,cap,none⟩ 1):=by
  refine ⟨_,cut_appendCap b.size 0 e (w.tape w.drawn (.appendCap b.size 0 e)),?_⟩
  generalize hcap : (Question.appendCap b.size 0 e).cut (w.tape w.drawn (.appendCap b.size 0 e)) = cap
  have hle : b.size≤cap:=by rw [← hcap]; exact cut_appendCap ..
  have hf : (Question.appendCap b.size 0 e).forced = false:=rfl
  have harr : (b.data.map fun b=>Value.int .u8 b.toNat) ++ Array.replicate (cap - b.size) (Value.int .u8 0) = (bvals b.data.toList ++ zvals (cap - b.size)).toArray:=by
    apply Array.ext'
    simp [bvals,zvals]
  have hsz : (bvals b.data.toList ++ zvals (cap - b.size)).toArray.size = cap:=by
    have : b.data.size = b.size:=rfl
    simp [bvals,zvals]
    omega
  have hshape : (World.alloc w.drew (.cells (bvals b.data.toList ++ zvals (cap - b.size)).toArray e)).shape? w.heap.size = some (e,cap):=by
    have : (World.alloc w.drew (.cells (bvals b.data.toList ++ zvals (cap - b.size)).toArray e)).heap[w.heap.size]? = some (.cells (bvals b.data.toList ++ zvals (cap - b.size)).toArray e):=by
      show (w.heap.push _)[w.heap.size]? = _
      rw [Array.getElem?_push_size]
    simp only [World.shape?,this]
    rw [hsz]
  simp only [Conv.stringToBytes,Sem.run_bind,run_choose,hf,Bool.false_eq_true,if_false,Result.andThen_ok,hcap,newRow,run_newObj_alloc,Sem.run_pure,harr,markStringish,run_shape,World.drew_eq]
  rw [show w.drew.heap.size = w.heap.size from rfl,hshape]
  simp
theorem SRel.stringToBytes (h : SRel Γ G s w) (e : TypeId) (l : List UInt8) (k cap : Nat) (hk : l.length + k = cap) (t g : Nat) (ht : ∀ e',g≤e'→G.tok t e' = none) :
    ∃ G',G.le G'∧SRel Γ G' (s.gain t g) ((w.drew.alloc (.cells (bvals l ++ zvals k).toArray e)).freeze ⟨w.heap.size,cap,none⟩ 1)∧RoAt G' w.heap.size 0 (bvals l)∧G'.tok t g = some (w.heap.size,l.length,cap):=by
  obtain ⟨G',h1,h2,h3,h4,h5,h6⟩:=h.drew.newRoTok (bvals l) (zvals k) e t g ht
  have hsz : (bvals l ++ zvals k).toArray.size = cap:=by simp [bvals,zvals]; omega
  have hcell : ∀ c T fr,(w.drew.alloc (.cells (bvals l ++ zvals k).toArray e)).heap[w.heap.size]? = some (.cells c T fr)→c.size≤cap:=by
    intro c T fr hc
    have : (w.drew.alloc (.cells (bvals l ++ zvals k).toArray e)).heap[w.heap.size]? = some (.cells (bvals l ++ zvals k).toArray e):=by
      show (w.drew.heap.push _)[w.drew.heap.size]? = _
      rw [Array.getElem?_push_size]
    rw [this] at hc
    cases hc
    omega
  refine ⟨G',h1,h2.worldEq (fun b j=>cell_freeze ..) (fun b j hb hc=>?_) (size_freeze ..).symm (below_freeze _ _ _ (by rw [← h6]; exact h.base)) (h2.others.trans (Keeps.freeze _ _ _)) (soft_freeze h2.soft hcell) (fun _ _ ho h=>map_freeze ho.nc h),h3,?_⟩
  · by_cases e' : w.heap.size = b
    · subst e'
      have hj : j < (bvals l ++ zvals k).toArray.size:=by
        rcases Nat.lt_or_ge j (bvals l ++ zvals k).toArray.size with h | h
        · exact h
        · exact absurd (by
            have:=World.cell?_alloc_new w.drew (bvals l ++ zvals k).toArray e j
            rw [show w.drew.heap.size = w.heap.size from rfl] at this
            rw [this,Array.getElem?_eq_none h]) hc
      have:=frozen_freeze_end w.drew (bvals l ++ zvals k).toArray e j hj
      rw [hsz] at this
      have k2:=World.frozen?_alloc_new w.drew (bvals l ++ zvals k).toArray e j
      rw [show w.drew.heap.size = w.heap.size from rfl] at this k2
      rw [this,k2]
    · exact frozen_freeze_other _ _ _ _ _ e'
  · rw [h4]
    simp [bvals,zvals,hk]
theorem run_aconv {src dst : TypeId} {x r : AV} {u : Value} (h : aconv P src dst x = some r) (hx : VRel G x u) (hs : SRel Γ G s w) :
    ∃ G' v w',(convert src dst u).run P w = .ok v w'∧G.le G'∧SRel Γ G' s w'∧VRel G' r v:=by
  unfold aconv at h
  split at h
  · rename_i k k' hu1 hu2
    simp only [VRel] at hx; subst hx
    cases h
    exact ⟨G,_,w,by simp [convert,run_underlying hu1,run_underlying hu2,Conv.intToInt]; rfl,.refl G,hs,by simp [VRel,iconv]⟩
  · rename_i hu1 hu2
    simp only [VRel] at hx; subst hx
    cases h
    exact ⟨G,_,w,by simp [convert,run_underlying hu1,run_underlying hu2]; rfl,.refl G,hs,by simp [VRel]⟩
  · rename_i e sz n cs sp hu1 hu2
    simp only [VRel] at hx
    rcases hx with ⟨b,off,cap,vs,rfl,hl,_,hv,hro,_⟩ | ⟨rfl,rfl,a,cap,rfl,_⟩ | ⟨rfl,rfl,rfl,rfl⟩
    case inr.inl =>
      split at h
      · rename_i he
        split at h
        · cases h
          refine ⟨G,.string (toBytes []),w,?_,.refl G,hs,by simp only [VRel]⟩
          rw [run_convert_bytes_string w src dst e (some a) 0 cap hu1 he hu2]
          have hl : (loadCells a 0).run P w = .ok #[] w:=run_loadCells_list (P:=P) w a [] (by simp)
          simp [Conv.bytesToString,hl,toBytes]
          rfl
        · cases h
      · cases h
    case inr.inr =>
      split at h
      · rename_i he
        split at h
        · cases h
          exact ⟨G,_,w,run_convert_bytes_nil w src e hu1 he _ _ dst hu2,.refl G,hs,by simp only [VRel]; rfl⟩
        · cases h
      · cases h
    split at h
    · rename_i he
      split at h
      · rename_i hc
        obtain ⟨rfl,hall⟩:=hc
        cases h
        obtain ⟨xs,rfl,hb⟩:=bytes_of_cells hv hall
        have hlen:=hv.length
        refine ⟨G,_,w,run_convert_bytes_arg w src e hu1 he b off n cap xs (by simp at hlen; omega) (fun i hi=>?_) dst hu2,.refl G,hs,?_⟩
        · have hi' : i < xs.length:=by simp at hlen; omega
          exact hs.ro _ _ _ (hro i _ (by simp [hi',List.getD]))
        · simp only [VRel,strOfNums,toBytes,hb]
      · cases h
    · cases h
  · rename_i e _ _ hu1 hu2
    simp only [VRel] at hx; subst hx
    split at h
    · rename_i he
      cases h
      exact ⟨G,_,w,run_convert_bytes_nil w src e hu1 he _ _ dst hu2,.refl G,hs,by simp only [VRel]⟩
    · cases h
  · rename_i e b hu1 hu2
    simp only [VRel] at hx; subst hx
    split at h
    · rename_i he
      cases h
      obtain ⟨cap,hle,hrun⟩:=run_stringToBytes (P:=P) e b w
      obtain ⟨G',h1,h2,h3,_⟩:=hs.stringToBytes e b.data.toList (cap - b.size) cap (by have : b.data.size = b.size:=rfl; simp; omega) G.nt 0 (fun e' _=>hs.freshT _ (Nat.le_refl _) e')
      refine ⟨G',.slice (some ⟨w.heap.size,0,none⟩) b.size cap,_,?_,h1,h2.mono ⟨fun _ _ h=>h,fun t e he=>?_,fun _ _ h=>h⟩,?_⟩
      · have : (convert src dst (.string b)).run P w = (Conv.stringToBytes e b).run P w:=by
          simp [convert,run_underlying hu1,run_underlying hu2,run_underlying he]
        rw [this,hrun]
      · have : t≠G.nt:=fun e'=>by subst e'; rw [hs.own_isNone (Nat.le_refl _)] at he; cases he
        simpa [AS.gain,upd,this] using he
      · simp only [VRel]
        exact .inl ⟨w.heap.size,0,cap,bvals b.data.toList,rfl,by have : b.data.size = b.size:=rfl; simp [this],hle,VRels_bytes _,h3,trivial⟩
    · cases h
  · rename_i e0 e sz n cs hu1 hu2
    simp only [VRel] at hx
    rcases hx with ⟨b,off,cap,vs,rfl,hl,hn,hv,hro,hcap,hB⟩ | ⟨_,_,a,cap,_,hm⟩ | ⟨_,_,hm,_⟩
    case inr.inl=>rcases hm with hm | hm | ⟨hm,_⟩ <;> cases hm
    case inr.inr=>cases hm
    split at h
    · rename_i he
      split at h
      · rename_i hsd
        subst hsd
        rw [hu1] at hu2
        cases hu2
        cases h
        obtain ⟨w',q1,q2⟩:=hs.markEnd (P:=P) (b:=b) (off:=off) hB
        refine ⟨G,.slice (some ⟨b,off,none⟩) n cap,w',?_,.refl G,q2,?_⟩
        · simp [convert,run_underlying hu1,run_underlying he,q1]
        · simp only [VRel]
          exact .inl ⟨b,off,cap,vs,rfl,hl,hn,hv,hro,hcap,hB⟩
      · cases h
    · cases h
  · cases h
end Go.AM
namespace Go.AM
open Go Go.RowKit
variable {P : Program} {Γ : Nat→List AV} {G : Gh} {s : AS} {w : World}
theorem RoAt.drop {b off : Nat} {vs : List Value} (h : RoAt G b off vs) (n : Nat) : RoAt G b (off + n) (vs.drop n):=by
  intro j u hj
  rw [List.getElem?_drop] at hj
  have:=h (n + j) u hj
  rwa [show off + n + j = off + (n + j) from by omega]
theorem RoAt.take {b off : Nat} {vs : List Value} (h : RoAt G b off vs) (n : Nat) : RoAt G b off (vs.take n):=by
  intro j u hj
  rw [List.getElem?_take] at hj
  split at hj
  · exact h j u hj
  · cases hj
theorem run_aindexAddr {T : TypeId} {x i r : AV} {u v : Value} (h : aindexAddr P T x i = some r) (hx : VRel G x u) (hi : VRel G i v) :
    ∃ z,(Instr.indexAt T u v).run P w = .ok z w∧VRel G r z:=by
  unfold aindexAddr at h
  split at h
  · rename_i e sz n cs sp k j hu
    simp only [VRel] at hx hi
    subst hi
    rcases hx with ⟨b,off,cap,vs,rfl,hl,_,hv,hro,_⟩ | ⟨rfl,_,a,cap,rfl,_⟩ | ⟨rfl,_,_,rfl⟩
    case inr.inl =>
      split at h
      · rename_i hc
        obtain ⟨h0,h1,_⟩:=hc
        exact absurd h1 (by omega)
      · cases h
    case inr.inr =>
      split at h
      · rename_i hc
        obtain ⟨h0,h1,_⟩:=hc
        exact absurd h1 (by omega)
      · cases h
    split at h
    · rename_i hc
      obtain ⟨h0,h1,rfl,hz⟩:=hc
      cases h
      refine ⟨.pointer (some ⟨b,off + j.toNat * P.cellsOf e,none⟩),?_,?_⟩
      · simp [Instr.indexAt,run_underlying hu,asIntOf,h0,h1,run_sizeOf' hz,add_spot]
      · simp only [VRel]
        exact ⟨b,_,_,rfl,(hv.drop _).take _,(hro.drop _).take _⟩
    · cases h
  · rename_i e o off sz n cap k j hu
    simp only [VRel] at hx hi
    subst hi
    obtain ⟨b,ho,rfl,_⟩:=hx
    split at h
    · rename_i hc
      obtain ⟨h0,h1,rfl,hz⟩:=hc
      cases h
      refine ⟨.pointer (some ⟨b,off + j.toNat * P.cellsOf e,none⟩),?_,?_⟩
      · simp [Instr.indexAt,run_underlying hu,asIntOf,h0,h1,run_sizeOf' hz,add_spot]
      · simp only [VRel]
        exact ⟨b,ho,rfl⟩
    · cases h
  · rename_i n e o off k j hu
    simp only [VRel] at hx hi
    subst hi
    obtain ⟨b,ho,rfl⟩:=hx
    split at h
    · rename_i hc
      obtain ⟨h0,h1,hz⟩:=hc
      cases h
      refine ⟨.pointer (some ⟨b,off + j.toNat * P.cellsOf e,none⟩),?_,?_⟩
      · simp [Instr.indexAt,run_underlying hu,Instr.sureAddr,asIntOf,h0,h1,run_sizeOf' hz,add_spot]
      · simp only [VRel]
        exact ⟨b,ho,rfl⟩
    · cases h
  · rename_i n e cs k j hu
    simp only [VRel] at hx hi
    subst hi
    obtain ⟨b,off,vs,rfl,hv,hro⟩:=hx
    split at h
    · rename_i hc
      obtain ⟨h0,h1,hz⟩:=hc
      cases h
      refine ⟨.pointer (some ⟨b,off + j.toNat * P.cellsOf e,none⟩),?_,?_⟩
      · simp [Instr.indexAt,run_underlying hu,Instr.sureAddr,asIntOf,h0,h1,run_sizeOf' hz,add_spot]
      · simp only [VRel]
        exact ⟨b,_,_,rfl,hv.drop _,hro.drop _⟩
    · cases h
  · cases h
theorem run_aindex {T : TypeId} {x i r : AV} {u v : Value} (h : aindex P T x i = some r) (hx : VRel G x u) (hi : VRel G i v) :
    ∃ z,(Instr.index T u v).run P w = .ok z w∧VRel G r z:=by
  unfold aindex at h
  split at h
  · rename_i n e cs k j hu
    simp only [VRel] at hx hi
    subst hi
    obtain ⟨vs,rfl,hv⟩:=hx
    split at h
    · rename_i hc
      obtain ⟨h0,h1,hz⟩:=hc
      obtain ⟨z,hz1,hz2⟩:=run_part' (w:=w) h hz hv
      refine ⟨z,?_,hz2⟩
      simp [Instr.index,run_underlying hu,asIntOf,h0,h1,run_sizeOf' hz,hz1]
    · cases h
  · rename_i b k j hu
    simp only [VRel] at hx hi
    subst hi hx
    split at h
    · rename_i h0
      split at h
      · rename_i c hc
        cases h
        refine ⟨.int .u8 c.toNat,?_,by simp [byteV,VRel]⟩
        simp [Instr.index,run_underlying hu,asIntOf,h0,hc]
      · cases h
    · cases h
  · cases h
theorem run_sliceBound {x : Value} {y : Nat} {code : BoundsCode} {k : IntKind} {i : Int} (hx : x = .int k i) (h0 : 0≤i) (h1 : i≤y) :
    (Instr.sliceBound x y code).run P w = .ok i.toNat w:=by
  subst hx
  simp [Instr.sliceBound,asIntOf,h0,h1]
inductive OptRel (G : Gh) : Option AV→Option Value→Prop
  | none : OptRel G .none .none
  | some {a : AV} {v : Value} : VRel G a v→OptRel G (.some a) (.some v)
theorem optInt_some {d l : Int} {a : Option AV} {v : Option Value} (h : optInt d a = some l) (hr : OptRel G a v) : (v = none∧l = d)∨∃ k,v = some (.int k l):=by
  cases hr with
  | none=>simp [optInt] at h; exact .inl ⟨rfl,h.symm⟩
  | some hv =>
    rename_i a v
    cases a <;> simp [optInt] at h
    rename_i x
    cases x <;> simp [optInt] at h
    simp only [VRel] at hv
    subst hv h
    exact .inr ⟨_,rfl⟩
theorem run_sliceBounds {isSlice : Bool} {len cap : Nat} {l h : Int} {lo hi : Option Value} (hlo : (lo = none∧l = 0)∨∃ k,lo = some (.int k l)) (hhi : (hi = none∧h = len)∨∃ k,hi = some (.int k h))
    (h0 : 0≤l) (h1 : l≤h) (h2 : h≤cap) (w : World) :
    (Instr.sliceBounds isSlice len cap lo hi none).run P w = .ok (l.toNat,h.toNat,cap) w:=by
  unfold Instr.sliceBounds
  rcases hhi with ⟨rfl,rfl⟩ | ⟨k',rfl⟩
  · rcases hlo with ⟨rfl,rfl⟩ | ⟨k,rfl⟩
    · simp
    · simp [run_sliceBound (P:=P) (w:=w) (x:=.int k l) (y:=len) (code:=.sliceB) rfl h0 h1]
  · rcases hlo with ⟨rfl,rfl⟩ | ⟨k,rfl⟩
    · simp [run_sliceBound (P:=P) (w:=w) (x:=.int k' h) (y:=cap) rfl (by omega) h2]
    · have e : ((h.toNat : Nat) : Int) = h:=by omega
      simp [run_sliceBound (P:=P) (w:=w) (x:=.int k' h) (y:=cap) rfl (by omega) h2,run_sliceBound (P:=P) (w:=w) (x:=.int k l) (y:=h.toNat) (code:=.sliceB) rfl h0 (by omega)]
theorem run_sliceBounds3 {isSlice : Bool} {len cap : Nat} {l h m : Int} {lo : Option Value} {k1 k2 : IntKind} (hlo : (lo = none∧l = 0)∨∃ k,lo = some (.int k l))
    (h0 : 0≤l) (h1 : l≤h) (h2 : h≤m) (h3 : m≤cap) (w : World) :
    (Instr.sliceBounds isSlice len cap lo (some (.int k1 h)) (some (.int k2 m))).run P w = .ok (l.toNat,h.toNat,m.toNat) w:=by
  unfold Instr.sliceBounds
  rcases hlo with ⟨rfl,rfl⟩ | ⟨k,rfl⟩
  · simp [run_sliceBound (P:=P) (w:=w) (x:=.int k2 m) (y:=cap) rfl (by omega) h3,run_sliceBound (P:=P) (w:=w) (x:=.int k1 h) (y:=m.toNat) (code:=.slice3B) rfl (by omega) (by omega)]
  · simp [run_sliceBound (P:=P) (w:=w) (x:=.int k2 m) (y:=cap) rfl (by omega) h3,run_sliceBound (P:=P) (w:=w) (x:=.int k1 h) (y:=m.toNat) (code:=.slice3B) rfl (by omega) (by omega),
      run_sliceBound (P:=P) (w:=w) (x:=.int k l) (y:=h.toNat) (code:=.slice3C) rfl h0 (by omega)]
theorem sliceAt_slice {T e : TypeId} (hu : P.underlying T = some (.slice e)) (x : Value) (lo hi mx : Option Value) : (Instr.sliceAt T x lo hi mx).run P w = (Instr.slice T x lo hi mx).run P w:=by
  simp [Instr.sliceAt,run_underlying hu]
theorem sliceAt_string {T : TypeId} (hu : P.underlying T = some .string) (x : Value) (lo hi mx : Option Value) : (Instr.sliceAt T x lo hi mx).run P w = (Instr.slice T x lo hi mx).run P w:=by
  simp [Instr.sliceAt,run_underlying hu]
end Go.AM
namespace Go.AM
open Go Go.RowKit
variable {P : Program} {Γ : Nat→List AV} {G : Gh} {s : AS} {w : World}
theorem slice_addr (b off l sz : Nat) (m : Nat) (hml : m = l∨m≠l) : (if m = l then (some ⟨b,off,none⟩ : Option Addr) else (some ⟨b,off,none⟩ : Option Addr).map (·.add (l * sz))) = some ⟨b,if m = l then off else off + l * sz,none⟩:=by
  rcases hml with h | h <;> simp [h,add_spot]
theorem run_aslice {T : TypeId} {x r : AV} {u : Value} {lo hi mx : Option AV} {lo' hi' mx' : Option Value} (h : aslice P T x lo hi mx = some r) (hx : VRel G x u)
    (hlo : OptRel G lo lo') (hhi : OptRel G hi hi') (hmx : OptRel G mx mx') :
    ∃ z,(Instr.sliceAt T u lo' hi' mx').run P w = .ok z w∧VRel G r z:=by
  unfold aslice at h
  split at h
  · -- a read-only slice
    rename_i e sz n cs sp hu
    simp only [VRel] at hx
    rcases hx with ⟨b,off,cap,vs,rfl,hl,hnc,hv,hro,hsp⟩ | ⟨rfl,rfl,a,cap,rfl,hsp⟩ | ⟨rfl,rfl,rfl,rfl⟩
    case inr.inl =>
      split at h
      · rename_i l h' m o1 o2 o3
        split at h
        · rename_i hc
          obtain ⟨c0,c1,c2,c3,c4,c5,c6⟩:=hc
          have hl0 : l = 0:=by omega
          have hh0 : h' = 0:=by omega
          subst hl0 hh0
          cases h
          subst c5
          have q1:=optInt_some o1 hlo
          have q2:=optInt_some o2 hhi
          rw [sliceAt_slice hu]
          cases hmx with
          | none =>
            have hb:=run_sliceBounds (P:=P) (isSlice:=true) (len:=0) (cap:=cap) q1 q2 (Int.le_refl 0) (Int.le_refl 0) (by omega) w
            refine ⟨.slice (some a) 0 cap,?_,?_⟩
            · simp [Instr.slice,run_underlying hu,hb,run_sizeOf' c6,Addr.add]
            · simp only [VRel]
              refine .inr (.inl ⟨by simp,by simp,a,cap,rfl,?_⟩)
              rcases hsp with rfl | rfl | ⟨rfl,rfl⟩ <;> simp
          | some hm =>
            rename_i ma mv
            have q3:=optInt_some o3 (OptRel.some hm)
            obtain ⟨k2,hk2⟩ : ∃ k,some mv = some (.int k m):=by
              rcases q3 with ⟨q,_⟩ | q
              · cases q
              · exact q
            have hm0 : m = 0:=by have:=c3 rfl; omega
            subst hm0
            cases hk2
            have hi2 : ∃ k1,hi' = some (.int k1 0):=by
              rcases q2 with ⟨q,q'⟩ | q
              · subst q
                cases hhi
                exact absurd (c4 rfl) (by simp)
              · exact q
            obtain ⟨k1,rfl⟩:=hi2
            have hb:=run_sliceBounds3 (P:=P) (isSlice:=true) (len:=0) (cap:=cap) (k1:=k1) (k2:=k2) q1 (Int.le_refl 0) (Int.le_refl 0) (Int.le_refl 0) (by omega) w
            refine ⟨.slice (some a) 0 0,?_,?_⟩
            · simp [Instr.slice,run_underlying hu,hb,run_sizeOf' c6,Addr.add]
            · simp only [VRel]
              refine .inr (.inl ⟨by simp,by simp,a,0,rfl,?_⟩)
              rcases hsp with rfl | rfl | ⟨rfl,rfl⟩ <;> simp
        · cases h
      · cases h
    case inr.inr =>
      split at h
      · rename_i l h' m o1 o2 o3
        split at h
        · rename_i hc
          obtain ⟨c0,c1,c2,c3,c4,c5,c6⟩:=hc
          have hl0 : l = 0:=by omega
          have hh0 : h' = 0:=by omega
          subst hl0 hh0
          cases h
          subst c5
          have q1:=optInt_some o1 hlo
          have q2:=optInt_some o2 hhi
          rw [sliceAt_slice hu]
          refine ⟨.slice none 0 0,?_,by simp only [VRel]; exact .inr (.inr ⟨by simp,by simp,by simp,by simp⟩)⟩
          cases hmx with
          | none =>
            have hb:=run_sliceBounds (P:=P) (isSlice:=true) (len:=0) (cap:=0) q1 q2 (Int.le_refl 0) (Int.le_refl 0) (Int.le_refl 0) w
            simp [Instr.slice,run_underlying hu,hb,run_sizeOf' c6]
          | some hm =>
            rename_i ma mv
            have q3:=optInt_some o3 (OptRel.some hm)
            obtain ⟨k2,hk2⟩ : ∃ k,some mv = some (.int k m):=by
              rcases q3 with ⟨q,_⟩ | q
              · cases q
              · exact q
            have hm0 : m = 0:=by have:=c3 rfl; omega
            subst hm0
            cases hk2
            have hi2 : ∃ k1,hi' = some (.int k1 0):=by
              rcases q2 with ⟨q,q'⟩ | q
              · subst q
                cases hhi
                exact absurd (c4 rfl) (by simp)
              · exact q
            obtain ⟨k1,rfl⟩:=hi2
            have hb:=run_sliceBounds3 (P:=P) (isSlice:=true) (len:=0) (cap:=0) (k1:=k1) (k2:=k2) q1 (Int.le_refl 0) (Int.le_refl 0) (Int.le_refl 0) (Int.le_refl 0) w
            simp [Instr.slice,run_underlying hu,hb,run_sizeOf' c6]
        · cases h
      · cases h
    split at h
    · rename_i l h' m o1 o2 o3
      split at h
      · rename_i hc
        obtain ⟨c0,c1,c2,c3,c4,c5,c6⟩:=hc
        cases h
        subst c5
        have q1:=optInt_some o1 hlo
        have q2:=optInt_some o2 hhi
        have hlen:=hv.length
        have hcl : ((cs.take (h'.toNat * P.cellsOf e)).drop (l.toNat * P.cellsOf e)).length = (h'.toNat - l.toNat) * P.cellsOf e:=by
          have : h'.toNat * P.cellsOf e≤n * P.cellsOf e:=Nat.mul_le_mul_right _ (by omega)
          simp only [List.length_drop,List.length_take,hl,Nat.sub_mul]
          omega
        have hle' : l.toNat≤h'.toNat:=by omega
        rw [sliceAt_slice hu]
        cases hmx with
        | none =>
          have hb:=run_sliceBounds (P:=P) (isSlice:=true) (len:=n) (cap:=cap) q1 q2 c0 c1 (by omega) w
          refine ⟨.slice (some ⟨b,if cap = l.toNat then off else off + l.toNat * P.cellsOf e,none⟩) (h'.toNat - l.toNat) (cap - l.toNat),?_,?_⟩
          · simp only [Instr.slice,Sem.run_bind,run_underlying hu,Result.andThen_ok,hb,run_sizeOf' c6,Sem.run_pure]
            rw [slice_addr _ _ _ _ _ (Decidable.em _)]
          · simp only [VRel]
            refine .inl ⟨b,_,_,(vs.take (h'.toNat * P.cellsOf e)).drop (l.toNat * P.cellsOf e),rfl,hcl,by omega,(hv.take _).drop _,?_,?_⟩
            · by_cases hcap : cap = l.toNat
              · rw [if_pos hcap]
                have : (vs.take (h'.toNat * P.cellsOf e)).drop (l.toNat * P.cellsOf e) = []:=by
                  apply List.drop_eq_nil_of_le
                  have : h'.toNat * P.cellsOf e≤l.toNat * P.cellsOf e:=Nat.mul_le_mul_right _ (by omega)
                  simp only [List.length_take]; omega
                rw [this]
                intro j u hj; simp at hj
              · rw [if_neg hcap]; exact (hro.take _).drop _
            · simp only [Option.isSome_none,Bool.false_eq_true,if_false]
              by_cases hn : h' = (n : Int)
              · have hn' : h'.toNat = n:=by omega
                cases sp with
                | no=>exact True.intro
                | any=>exact True.intro
                | full=>simp only [if_pos hn]; simp only [SpRel] at hsp ⊢; omega
                | new=>simp only [if_pos hn]; simp only [SpRel] at hsp ⊢; exact ⟨by omega,hsp.2⟩
                | own t g =>
                  simp only [if_pos hn]
                  by_cases hl0 : l = 0
                  · subst hl0
                    rw [if_pos rfl]
                    simp only [SpRel] at hsp ⊢
                    rw [hn',hsp]
                    by_cases hc0 : cap = (0 : Int).toNat <;> simp [hc0]
                  · rw [if_neg hl0]; exact True.intro
              · cases sp <;> first | exact True.intro | (simp only [if_neg hn]; exact True.intro)
        | some hm =>
          rename_i ma mv
          have q3:=optInt_some o3 (OptRel.some hm)
          have hhm : h' = m:=c3 rfl
          subst hhm
          obtain ⟨k2,hk2⟩ : ∃ k,some mv = some (.int k h'):=by
            rcases q3 with ⟨q,_⟩ | q
            · cases q
            · exact q
          cases hk2
          have hi2 : ∃ k1,hi' = some (.int k1 h'):=by
            rcases q2 with ⟨q,q'⟩ | q
            · subst q
              cases hhi
              exact absurd (c4 rfl) (by simp)
            · exact q
          obtain ⟨k1,rfl⟩:=hi2
          have hb:=run_sliceBounds3 (P:=P) (isSlice:=true) (len:=n) (cap:=cap) (k1:=k1) (k2:=k2) q1 c0 c1 (Int.le_refl h') (by omega) w
          refine ⟨.slice (some ⟨b,if h'.toNat = l.toNat then off else off + l.toNat * P.cellsOf e,none⟩) (h'.toNat - l.toNat) (h'.toNat - l.toNat),?_,?_⟩
          · simp only [Instr.slice,Sem.run_bind,run_underlying hu,Result.andThen_ok,hb,run_sizeOf' c6,Sem.run_pure]
            rw [slice_addr _ _ _ _ _ (Decidable.em _)]
          · simp only [VRel]
            refine .inl ⟨b,_,_,(vs.take (h'.toNat * P.cellsOf e)).drop (l.toNat * P.cellsOf e),rfl,hcl,by omega,(hv.take _).drop _,?_,?_⟩
            · by_cases hcap : h'.toNat = l.toNat
              · rw [if_pos hcap]
                have : (vs.take (h'.toNat * P.cellsOf e)).drop (l.toNat * P.cellsOf e) = []:=by
                  apply List.drop_eq_nil_of_le
                  simp only [List.length_take,hcap]; omega
                rw [this]
                intro j u hj; simp at hj
              · rw [if_neg hcap]; exact (hro.take _).drop _
            · cases sp <;> simp [SpRel]
      · cases h
    · cases h
  · -- nil
    rename_i e hu
    simp only [VRel] at hx
    subst hx
    split at h
    · rename_i l h' m o1 o2 o3
      split at h
      · rename_i hc
        obtain ⟨rfl,rfl,rfl,c6,c4⟩:=hc
        cases h
        have q1:=optInt_some o1 hlo
        have q2:=optInt_some o2 hhi
        rw [sliceAt_slice hu]
        refine ⟨.slice none 0 0,?_,by simp [VRel]⟩
        cases hmx with
        | none =>
          have hb:=run_sliceBounds (P:=P) (isSlice:=true) (len:=0) (cap:=0) q1 (by simpa using q2) (Int.le_refl 0) (Int.le_refl 0) (Int.le_refl 0) w
          simp [Instr.slice,run_underlying hu,hb,run_sizeOf' c6]
        | some hm =>
          rename_i ma mv
          have q3:=optInt_some o3 (OptRel.some hm)
          obtain ⟨k2,hk2⟩ : ∃ k,some mv = some (.int k 0):=by
            rcases q3 with ⟨q,_⟩ | q
            · cases q
            · exact q
          cases hk2
          have hi2 : ∃ k1,hi' = some (.int k1 0):=by
            rcases q2 with ⟨q,q'⟩ | q
            · subst q
              cases hhi
              exact absurd (c4 rfl) (by simp)
            · exact q
          obtain ⟨k1,rfl⟩:=hi2
          have hb:=run_sliceBounds3 (P:=P) (isSlice:=true) (len:=0) (cap:=0) (k1:=k1) (k2:=k2) q1 (Int.le_refl 0) (Int.le_refl 0) (Int.le_refl 0) (Int.le_refl 0) w
          simp [Instr.slice,run_underlying hu,hb,run_sizeOf' c6]
      · cases h
    · cases h
  · -- a slice of an object
    rename_i e o off sz n cap hu
    simp only [VRel] at hx
    obtain ⟨b,ho,rfl,hnc⟩:=hx
    split at h
    · rename_i l h' o1 o2
      cases hmx
      split at h
      · rename_i hc
        obtain ⟨c0,c1,c2,rfl,c6⟩:=hc
        cases h
        have q1:=optInt_some o1 hlo
        have q2:=optInt_some o2 hhi
        rw [sliceAt_slice hu]
        have hb:=run_sliceBounds (P:=P) (isSlice:=true) (len:=n) (cap:=cap) q1 q2 c0 c1 c2 w
        refine ⟨.slice (some ⟨b,if cap = l.toNat then off else off + l.toNat * P.cellsOf e,none⟩) (h'.toNat - l.toNat) (cap - l.toNat),?_,?_⟩
        · simp only [Instr.slice,Sem.run_bind,run_underlying hu,Result.andThen_ok,hb,run_sizeOf' c6,Sem.run_pure]
          rw [slice_addr _ _ _ _ _ (Decidable.em _)]
        · simp only [VRel]
          refine ⟨b,ho,?_,by omega⟩
          by_cases hcap : cap = l.toNat
          · rw [if_pos hcap,if_pos (by omega)]
          · rw [if_neg hcap,if_neg (by omega)]
      · cases h
    · cases h
  · -- an array's address
    rename_i n e o off hu
    simp only [VRel] at hx
    obtain ⟨b,ho,rfl⟩:=hx
    split at h
    · rename_i l h' o1 o2
      cases hmx
      split at h
      · rename_i hc
        obtain ⟨c0,c1,c2,c6⟩:=hc
        cases h
        have q1:=optInt_some o1 hlo
        have q2:=optInt_some o2 hhi
        have hb:=run_sliceBounds (P:=P) (isSlice:=false) (len:=n) (cap:=n) q1 q2 c0 c1 c2 w
        refine ⟨.slice (some ⟨b,if n = l.toNat then off else off + l.toNat * P.cellsOf e,none⟩) (h'.toNat - l.toNat) (n - l.toNat),?_,?_⟩
        · simp only [Instr.sliceAt,Sem.run_bind,run_underlying hu,Result.andThen_ok,Instr.sureAddr,Sem.run_pure,hb,run_sizeOf' c6]
          by_cases hcap : n = l.toNat
          · simp [hcap]
          · simp [hcap,add_spot]
        · simp only [VRel]
          refine ⟨b,ho,?_,by omega⟩
          by_cases hcap : n = l.toNat
          · rw [if_pos hcap,if_pos (by omega)]
          · rw [if_neg hcap,if_neg (by omega)]
      · cases h
    · cases h
  · -- a string
    rename_i b hu
    simp only [VRel] at hx
    subst hx
    split at h
    · rename_i l h' o1 o2
      cases hmx
      split at h
      · rename_i hc
        obtain ⟨c0,c1,c2⟩:=hc
        cases h
        have q1:=optInt_some o1 hlo
        have q2:=optInt_some o2 hhi
        rw [sliceAt_string hu]
        have hb:=run_sliceBounds (P:=P) (isSlice:=false) (len:=b.size) (cap:=b.size) q1 q2 c0 c1 c2 w
        exact ⟨.string (b.extract l.toNat h'.toNat),by simp [Instr.slice,run_underlying hu,hb],by simp [VRel]⟩
      · cases h
    · cases h
  · cases h
theorem run_abuiltin {b : Builtin} {argTypes : Array TypeId} {args : List AV} {vs : List Value} {T : TypeId} {consts : Array Bool} {r : AV} (h : abuiltin P b argTypes args = some r) (hv : VRels G args vs) :
    ∃ z,(builtin b argTypes T consts vs.toArray).run P w = .ok (.value z) w∧VRel G r z:=by
  unfold abuiltin at h
  split at h
  · rename_i x
    simp only [VRels] at hv
    obtain ⟨u,us,rfl,hx,rfl⟩:=hv
    split at h
    · rename_i e sz n cs sp hu
      obtain ⟨t,ht,hu⟩:=Option.bind_eq_some_iff.1 hu
      simp only [VRel] at hx
      cases h
      rcases hx with ⟨b,off,cap,vs,rfl,_⟩ | ⟨rfl,rfl,a,cap,rfl,_⟩ | ⟨rfl,rfl,rfl,rfl⟩
      · exact ⟨.int .i64 n,by simp [builtin,Builtin.len_,ht,run_underlying hu,goInt],by simp [VRel]⟩
      · exact ⟨.int .i64 0,by simp [builtin,Builtin.len_,ht,run_underlying hu,goInt],by simp [VRel]⟩
      · exact ⟨.int .i64 0,by simp [builtin,Builtin.len_,ht,run_underlying hu,goInt],by simp [VRel]⟩
    · rename_i e o off sz n cap hu
      obtain ⟨t,ht,hu⟩:=Option.bind_eq_some_iff.1 hu
      simp only [VRel] at hx
      obtain ⟨b,_,rfl,_⟩:=hx
      cases h
      exact ⟨.int .i64 n,by simp [builtin,Builtin.len_,ht,run_underlying hu,goInt],by simp [VRel]⟩
    · rename_i e n cap hu
      obtain ⟨t,ht,hu⟩:=Option.bind_eq_some_iff.1 hu
      simp only [VRel] at hx
      subst hx
      cases h
      exact ⟨.int .i64 n,by simp [builtin,Builtin.len_,ht,run_underlying hu,goInt],by simp [VRel]⟩
    · rename_i b hu
      obtain ⟨t,ht,hu⟩:=Option.bind_eq_some_iff.1 hu
      simp only [VRel] at hx
      subst hx
      cases h
      exact ⟨.int .i64 b.size,by simp [builtin,Builtin.len_,ht,run_underlying hu,goInt],by simp [VRel]⟩
    · rename_i n e hu
      obtain ⟨t,ht,hu⟩:=Option.bind_eq_some_iff.1 hu
      cases h
      exact ⟨.int .i64 n,by simp [builtin,Builtin.len_,ht,run_underlying hu,goInt],by simp [VRel]⟩
    · cases h
  · rename_i x
    simp only [VRels] at hv
    obtain ⟨u,us,rfl,hx,rfl⟩:=hv
    split at h
    · rename_i e o off sz n cap hu
      obtain ⟨t,ht,hu⟩:=Option.bind_eq_some_iff.1 hu
      simp only [VRel] at hx
      obtain ⟨b,_,rfl,_⟩:=hx
      cases h
      exact ⟨.int .i64 cap,by simp [builtin,Builtin.cap_,ht,run_underlying hu,goInt],by simp [VRel]⟩
    · rename_i e n cap hu
      obtain ⟨t,ht,hu⟩:=Option.bind_eq_some_iff.1 hu
      simp only [VRel] at hx
      subst hx
      cases h
      exact ⟨.int .i64 cap,by simp [builtin,Builtin.cap_,ht,run_underlying hu,goInt],by simp [VRel]⟩
    · rename_i e sz n cs hu
      obtain ⟨t,ht,hu⟩:=Option.bind_eq_some_iff.1 hu
      simp only [VRel,SpRel] at hx
      cases h
      rcases hx with ⟨b,off,cap,vs,rfl,_,_,_,_,rfl⟩ | ⟨rfl,rfl,a,cap,rfl,hsp⟩ | ⟨_,_,hsp,_⟩
      · exact ⟨.int .i64 _,by simp [builtin,Builtin.cap_,ht,run_underlying hu,goInt]; rfl,by simp [VRel]⟩
      · obtain rfl : cap = 0:=by simpa using hsp
        exact ⟨.int .i64 0,by simp [builtin,Builtin.cap_,ht,run_underlying hu,goInt],by simp [VRel]⟩
      · simp at hsp
    · rename_i e sz n cs hu
      obtain ⟨t,ht,hu⟩:=Option.bind_eq_some_iff.1 hu
      simp only [VRel,SpRel] at hx
      rcases hx with ⟨b,off,cap,vs,rfl,_,_,_,_,rfl,_⟩ | ⟨_,_,a,cap,_,hm⟩ | ⟨_,_,hm,_⟩
      case inr.inl=>rcases hm with hm | hm | ⟨hm,_⟩ <;> cases hm
      case inr.inr=>cases hm
      cases h
      exact ⟨.int .i64 _,by simp [builtin,Builtin.cap_,ht,run_underlying hu,goInt]; rfl,by simp [VRel]⟩
    · cases h
  · rename_i k x k' y
    simp only [VRels,VRel] at hv
    obtain ⟨u,us,rfl,rfl,v,us',rfl,rfl,rfl⟩:=hv
    split at h
    · rename_i hk
      cases h
      exact ⟨_,by simp [builtin,Builtin.min_,Builtin.min2]; rfl,by simp [VRel]⟩
    · cases h
  · rename_i k x k' y
    simp only [VRels,VRel] at hv
    obtain ⟨u,us,rfl,rfl,v,us',rfl,rfl,rfl⟩:=hv
    split at h
    · rename_i hk
      cases h
      exact ⟨_,by simp [builtin,Builtin.max_,Builtin.max2]; rfl,by simp [VRel]⟩
    · cases h
  · cases h
end Go.AM
namespace Go.AM
open Go Go.RowKit
variable {P : Program} {Γ : Nat→List AV} {G : Gh} {s : AS} {w : World}
def vsetAll (cells : List Value) (off : Nat) : List Value→List Value
  | []=>cells
  | x :: xs=>vsetAll (cells.set off x) (off + 1) xs
theorem length_asetAll : ∀ (xs cells : List AV) (off : Nat),(asetAll cells off xs).length = cells.length
  | [],_,_=>rfl
  | x :: xs,cells,off=>by simp [asetAll,length_asetAll xs]
theorem foldl_set : ∀ (us : List Value) (cells : Array Value) (off k : Nat),
    (us.zipIdx k).foldl (fun cs (p : Value × Nat)=>cs.setIfInBounds (off + p.2) p.1) cells = (vsetAll cells.toList (off + k) us).toArray
  | [],cells,off,k=>by simp [vsetAll]
  | u :: us,cells,off,k=>by
    simp only [List.zipIdx_cons,List.foldl_cons,vsetAll]
    rw [foldl_set us]
    simp [Nat.add_assoc]
theorem VRels.setAll : ∀ {ds : List AV} {us : List Value} {cs : List AV} {vs : List Value} (off : Nat),VRels G cs vs→VRels G ds us→VRels G (asetAll cs off ds) (vsetAll vs off us)
  | [],us,cs,vs,off,h,k=>by simp only [VRels] at k; subst k; simpa [asetAll,vsetAll] using h
  | d :: ds,us,cs,vs,off,h,k=>by
    simp only [VRels] at k
    obtain ⟨u,us',rfl,h2,h3⟩:=k
    simp only [asetAll,vsetAll]
    exact VRels.setAll (off + 1) (h.set off h2) h3
inductive PartsRel (G : Gh) : List (Nat × AV)→List (Nat × Value)→Prop
  | nil : PartsRel G [] []
  | cons (i : Nat) {a : AV} {v : Value} {as : List (Nat × AV)} {vs : List (Nat × Value)} : VRel G a v→PartsRel G as vs→PartsRel G ((i,a) :: as) ((i,v) :: vs)
theorem PartsRel.of_map {ρ : Operand→AV} {ρ' : Operand→Value} (h : ∀ x,VRel G (ρ x) (ρ' x)) : ∀ (l : List (Nat × Operand)),PartsRel G (l.map fun p=>(p.1,ρ p.2)) (l.map fun p=>(p.1,ρ' p.2))
  | []=>.nil
  | (i,x) :: l=>.cons _ (h x) (PartsRel.of_map h l)
theorem afill_sound (place : Nat→Option (Nat × Nat)) : ∀ {ps : List (Nat × AV)} {qs : List (Nat × Value)} {cs cs' : List AV} {vs : List Value},afill place cs ps = some cs'→PartsRel G ps qs→VRels G cs vs →
    ∃ vs' : List Value,Instr.fill place vs.toArray qs = some vs'.toArray∧VRels G cs' vs'
  | [],qs,cs,cs',vs,h,hp,hv=>by
    cases hp
    simp [afill] at h
    subst h
    exact ⟨vs,by simp [Instr.fill],hv⟩
  | (_,a) :: ps,qs,cs,cs',vs,h,hp,hv=>by
    cases hp with
    | cons _ ha hp =>
      rename_i v qs
      unfold afill at h
      split at h
      · cases h
      · rename_i off size hpl
        split at h
        · cases h
        · rename_i hc
          have hcells:=VRels_of_cells ha
          have hl1:=hcells.length
          have hl2:=hv.length
          have hl3 : v.cells.toList.length = v.cells.size:=by simp
          obtain ⟨vs',h1,h2⟩:=afill_sound place h hp (hv.setAll off hcells)
          refine ⟨vs',?_,h2⟩
          simp only [Instr.fill,hpl]
          rw [if_neg]
          · rw [← h1]
            congr 1
            have:=foldl_set v.cells.toList vs.toArray off 0
            rw [← Array.foldl_toList,Array.toList_zipIdx]
            exact this
          · simp only [not_or,Nat.not_lt,ne_eq,Classical.not_not,Bool.or_eq_true,decide_eq_true_eq] at hc ⊢
            refine ⟨by omega,?_⟩
            simp only [List.size_toArray]
            omega
theorem zcells_some {t : TypeId} {z : List AV} (h : zcells P t = some z) : ∃ v,(∀ w,(zeroValue t).run P w = .ok v w)∧z = v.cells.toList.map .v:=by
  unfold zcells at h
  cases hi : P.info? t with
  | none=>simp [hi] at h
  | some i =>
    simp [hi] at h
    obtain ⟨v,h1,h2⟩:=h
    exact ⟨v,fun w=>by simp [zeroValue,typeInfo,hi,h1],h2.symm⟩
theorem run_mapM_fields (fs : Array Field) (hall : fs.all (fun f=>(P.info? f.type).isSome) = true) (w : World) :
    (fs.mapM fun f=>(do pure (f.offset,← sizeOf f.type) : Sem (Nat × Nat))).run P w = .ok (fs.map fun f=>(f.offset,P.cellsOf f.type)) w:=by
  have key : ∀ (l : List Field),(∀ f ∈ l,(P.info? f.type).isSome = true)→(l.mapM fun f=>(do pure (f.offset,← sizeOf f.type) : Sem (Nat × Nat))).run P w = .ok (l.map fun f=>(f.offset,P.cellsOf f.type)) w:=by
    intro l
    induction l with
    | nil=>intro _; simp
    | cons f l ih =>
      intro hl
      simp only [List.mapM_cons,Sem.run_bind,run_sizeOf_some (hl f (by simp)),Result.andThen_ok,Sem.run_pure,ih (fun g hg=>hl g (by simp [hg]))]
      simp
  rw [Array.mapM_eq_mapM_toList]
  simp only [Sem.run_map]
  rw [key fs.toList (fun f hf=>by
    rw [Array.all_eq_true_iff_forall_mem] at hall
    exact hall f (by simpa using hf))]
  simp only [Result.andThen_ok]
  congr 1
  apply Array.ext'
  simp
theorem run_build {T : TypeId} {parts : List (Nat × AV)} {qs : Array (Nat × Value)} {r : AV}
    (h : (match P.underlying T,zcells P T with
      | some (.struct _),some z =>
        if fieldsOk P T = true then (afill (placeOf P T) z parts).map .agg else none
      | some (.array _ e),some z=>if P.cellsOf e = 0 then none else (afill (fun i=>some (i * P.cellsOf e,P.cellsOf e)) z parts).map .agg
      | _,_=>none) = some r) (hp : PartsRel G parts qs.toList) :
    ∃ v,(Instr.build T qs).run P w = .ok v w∧VRel G r v:=by
  split at h
  · rename_i fs z hu hz
    obtain ⟨v,hv,rfl⟩:=zcells_some hz
    split at h
    · rename_i hall
      have hall : fs.all (fun f=>(P.info? f.type).isSome) = true:=by simpa [fieldsOk,hu] using hall
      have hplace : placeOf P T = fun (i : Nat)=>(fs[i]?).map fun (f : Field)=>(f.offset,P.cellsOf f.type):=by
        funext i
        simp only [placeOf,fieldOf,hu]
        cases fs[i]? <;> rfl
      rw [hplace] at h
      simp only [Option.map_eq_some_iff] at h
      obtain ⟨cs,h1,rfl⟩:=h
      obtain ⟨vs,h2,h3⟩:=afill_sound _ h1 hp (VRels.vals (G:=G) v.cells.toList)
      refine ⟨.agg vs.toArray,?_,by simp only [VRel]; exact ⟨vs,rfl,h3⟩⟩
      have e : (fun (i : Nat)=>(fs.map fun (f : Field)=>(f.offset,P.cellsOf f.type))[i]?) = fun (i : Nat)=>(fs[i]?).map fun (f : Field)=>(f.offset,P.cellsOf f.type):=by
        funext i; simp
      simp only [Instr.build,Sem.run_bind,hv,Result.andThen_ok,run_underlying hu,run_mapM_fields fs hall]
      simp only [Array.toArray_toList] at h2
      simp only [e,h2]
      rfl
    · cases h
  · rename_i n e z hu hz
    obtain ⟨v,hv,rfl⟩:=zcells_some hz
    split at h
    · cases h
    · rename_i hne
      simp only [Option.map_eq_some_iff] at h
      obtain ⟨cs,h1,rfl⟩:=h
      obtain ⟨vs,h2,h3⟩:=afill_sound _ h1 hp (VRels.vals (G:=G) v.cells.toList)
      refine ⟨.agg vs.toArray,?_,by simp only [VRel]; exact ⟨vs,rfl,h3⟩⟩
      simp only [Array.toArray_toList] at h2
      simp [Instr.build,hv,run_underlying hu,run_sizeOf' hne,h2]
  · cases h
theorem VRels_zrow {z : List Value} (n : Nat) (hz : z≠[]) : VRels G (zrow n (z.map .v)) ((List.range n).map fun i=>z.toArray[i % z.toArray.size]!):=by
  have key : ∀ (l : List Nat),VRels G (l.map fun i=>(z.map AV.v).getD (i % (z.map AV.v).length) (.v default)) (l.map fun i=>z.toArray[i % z.toArray.size]!):=by
    intro l
    induction l with
    | nil=>simp [VRels]
    | cons i l ih =>
      simp only [List.map_cons,VRels]
      refine ⟨_,_,rfl,?_,ih⟩
      have hlt : i % z.length < z.length:=Nat.mod_lt _ (List.length_pos_iff.2 hz)
      simp [VRel,hlt,List.getD]
  exact key _
theorem run_buildSlice' (hs : SRel Γ G s w) {T : TypeId} {len : Nat} {parts : List (Nat × AV)} {qs : Array (Nat × Value)} {r : AV}
    (h : (match P.underlying T with
      | some (.slice e) =>
        match zcells P e with
        | some z =>
          if P.cellsOf e = 0∨len * P.cellsOf e > 2 ^ 24∨z.length≠P.cellsOf e then none else
          (afill (fun i=>some (i * P.cellsOf e,P.cellsOf e)) (zrow (len * P.cellsOf e) z) parts).map fun cs=>.sl (P.cellsOf e) len cs .new
        | none=>none
      | _=>none) = some r) (hp : PartsRel G parts qs.toList) :
    ∃ G' v w',(Instr.buildSlice T len qs).run P w = .ok v w'∧G.le G'∧SRel Γ G' s w'∧VRel G' r v:=by
  split at h
  · rename_i e hu
    split at h
    · rename_i z hz
      obtain ⟨v,hv,rfl⟩:=zcells_some hz
      split at h
      · cases h
      · rename_i hc
        simp only [not_or,ne_eq,Classical.not_not,Nat.not_lt,gt_iff_lt] at hc
        obtain ⟨c1,c2,c3⟩:=hc
        simp only [Option.map_eq_some_iff] at h
        obtain ⟨cs,h1,rfl⟩:=h
        have hne : v.cells.toList≠[]:=by
          intro e'
          rw [e'] at c3
          simp at c3
          omega
        obtain ⟨vs,h2,h3⟩:=afill_sound (G:=G) _ h1 hp (VRels_zrow (len * P.cellsOf e) hne)
        have hlen : cs.length = len * P.cellsOf e:=by
          have : ∀ {place : Nat→Option (Nat × Nat)} {ps : List (Nat × AV)} {cs cs' : List AV},afill place cs ps = some cs'→cs'.length = cs.length:=by
            intro place ps
            induction ps with
            | nil=>intro cs cs' h; simp [afill] at h; simp [h]
            | cons p ps ih =>
              obtain ⟨i,a⟩:=p
              intro cs cs' h
              unfold afill at h
              split at h
              · cases h
              · split at h
                · cases h
                · rw [ih h,length_asetAll]
          rw [this h1]
          simp [zrow]
        obtain ⟨hle,hS⟩:=hs.newRo vs vs.toArray e (fun j u hj=>by simpa using hj)
        refine ⟨_,.slice (some ⟨w.heap.size,0,none⟩) len len,_,?_,hle,hS,?_⟩
        · simp only [Instr.buildSlice,Sem.run_bind,run_underlying hu,Result.andThen_ok,run_sizeOf' c1]
          rw [if_neg (by omega)]
          by_cases h0 : len * P.cellsOf e = 0
          · have hcells : (Array.range (len * P.cellsOf e)).map (fun i=>(#[] : Array Value)[i % (#[] : Array Value).size]!) = ((List.range (len * P.cellsOf e)).map fun i=>v.cells.toList.toArray[i % v.cells.toList.toArray.size]!).toArray:=by
              rw [h0]; simp
            rw [if_pos h0]
            simp only [Sem.run_bind,Sem.run_pure,Result.andThen_ok,hcells,h2]
            simp [newRow]
          · have hcells : (Array.range (len * P.cellsOf e)).map (fun i=>v.cells[i % v.cells.size]!) = ((List.range (len * P.cellsOf e)).map fun i=>v.cells.toList.toArray[i % v.cells.toList.toArray.size]!).toArray:=by
              apply Array.ext'
              simp
            rw [if_neg h0]
            simp only [Sem.run_bind,hv,Sem.run_pure,Result.andThen_ok,hcells,h2]
            simp [newRow]
        · simp only [VRel]
          exact .inl ⟨w.heap.size,0,len,vs,rfl,hlen,Nat.le_refl _,VRels.mono hle _ _ h3,RoAt.added G w.heap.size 0 vs,rfl,hs.base⟩
    · cases h
  · cases h
end Go.AM
