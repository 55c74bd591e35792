/- An abstract machine for the model: abstract values, their relation to worlds, and the rules of its walk, each proved sound over the model; no condition. -/
import Derived.Test.YtfjlmkifiihgkaaGreatDoorAMp5
import Derived.RangeFuncIn
import Derived.RangeFuncRecord
import Derived.RangeFuncSeq
import Derived.RangeFuncLeaves
import Derived.Test.YtfjlmkifiihgkaaGreatDoorAMp4
import Derived.SizedLaws
import Derived.OpenShut
set_option linter.unusedSimpArgs false
set_option linter.unusedVariables false
set_option autoImplicit false
namespace Go.AM
open Go Go.RowKit
variable {P : Program} {Γ : Nat→List AV} {G : Gh} {s : AS} {w : World}
theorem awp_reg_mid {N : Nat} {E : Env} {Q : Exit→Env→AS→Prop} {id : Nat} (L1 L2 : List Oper) {o : Oper} {code : Code} (hg : o.guard = none) (hd : ∀ d,o.dst = some d→d < N)
    (h : AY P Γ N (L1 ++ o :: L2).toArray L1 (fun E1 s1=>∃ K1 : AV→AS→Prop,(∀ G a w,Rel Γ N G E1 s1 a w→OpRes P Γ G K1 ((execOp a.eval o).run P w)) ∧
      ∀ r s2,K1 r s2→AY P Γ N (L1 ++ o :: L2).toArray L2 (fun E' s'=>AWp P Γ N code Q E' s') (updO E1 o.dst r) s2) E s) :
    AWp P Γ N (.seq (.region id (L1 ++ o :: L2).toArray false) code) Q E s:=by
  rw [ay] at h
  refine awp_seq ?_
  intro G a w hr
  refine wp_region ?_
  have hall : ∀ ops : Array Oper,(List.range ops.size).map (ops[·]?) = ops.toList.map some:=by
    intro ops
    apply List.ext_getElem?
    intro i
    simp only [List.getElem?_map]
    by_cases hi : i < ops.size
    · simp [hi]
    · simp [hi]
  have hmap:=hall (L1 ++ o :: L2).toArray
  generalize hI : List.range (L1 ++ o :: L2).toArray.size = I at hmap
  have h1 : (I.take L1.length).map ((L1 ++ o :: L2).toArray[·]?) = L1.map some:=by
    rw [List.map_take,hmap]; simp
  have h2 : (I.drop L1.length).map ((L1 ++ o :: L2).toArray[·]?) = (o :: L2).map some:=by
    rw [List.map_drop,hmap]; simp
  rw [← List.take_append_drop L1.length I]
  generalize I.take L1.length = I1 at h1
  generalize I.drop L1.length = I2 at h2
  cases I2 with
  | nil=>simp at h2
  | cons i I2 =>
    simp only [List.map_cons,List.cons.injEq] at h2
    refine AX_wpOps_append L1 I1 (i :: I2) h1 (AX_frame _ h) hr ?_
    rintro G1 E1 s1 a1 w1 hG1 hr1 ⟨⟨K1,hop,hk⟩,hfr1⟩
    rw [wpOps_cons]
    simp only [wpOp,h2.1]
    rw [if_pos (wanted_none hg)]
    refine .inl (Oper.wp_of_res hr1 hd (hop G1 a1 w1 hr1) ?_)
    intro G3 r s3 a3 w3 hG3 hr3 hK
    refine AX_wpOps L2 I2 h2.2 (AX_frame _ (hk r s3 hK)) hr3 ?_
    rintro G4 E4 s4 a4 w4 hG4 hr4 ⟨hk4,hfr4⟩
    refine ⟨G4,E4,s4,hG1.trans (hG3.trans hG4),hr4,hk4,?_⟩
    intro i hi
    have mem : ∀ L : List Oper,i ∈ dsts L↔∃ o ∈ L,o.dst = some i:=fun L=>by simp [dsts,List.mem_filterMap]
    have hi' : ¬ ∃ o' ∈ L1 ++ o :: L2,o'.dst = some i:=fun hm=>hi ((mem _).2 hm)
    have m1 : i ∉ dsts L1:=fun hm=>hi' (by obtain ⟨o,k1,k2⟩:=(mem _).1 hm; exact ⟨o,by simp [k1],k2⟩)
    have m2 : i ∉ dsts L2:=fun hm=>hi' (by obtain ⟨o,k1,k2⟩:=(mem _).1 hm; exact ⟨o,by simp [k1],k2⟩)
    have m3 : o.dst≠some i:=fun e=>hi' ⟨o,by simp,e⟩
    rw [hfr4 i m2,updO_other m3,hfr1 i m1]
theorem awp_reg_mid0 {N : Nat} {E : Env} {Q : Exit→Env→AS→Prop} {id : Nat} {L2 : List Oper} {o : Oper} {code : Code} (hg : o.guard = none) (hd : ∀ d,o.dst = some d→d < N) (K1 : AV→AS→Prop)
    (hop : ∀ G a w,Rel Γ N G E s a w→OpRes P Γ G K1 ((execOp a.eval o).run P w))
    (h : ∀ r s2,K1 r s2→AY P Γ N (o :: L2).toArray L2 (fun E' s'=>AWp P Γ N code Q E' s') (updO E o.dst r) s2) :
    AWp P Γ N (.seq (.region id (o :: L2).toArray false) code) Q E s :=
  awp_reg_mid [] L2 hg hd (by rw [AX_nil]; exact ⟨K1,hop,h⟩)
theorem lit_obj_res {ρ : Operand→AV} {ρ' : Operand→Value} {o : Oper} {T : TypeId} {len : Nat} {parts : Array (Nat × Operand)} {cs z : List AV} {e : TypeId} (ho : o.op = .buildSlice T len parts)
    (hu : P.underlying T = some (.slice e)) (hz : zcells P e = some z) (c1 : P.cellsOf e≠0) (c2 : len * P.cellsOf e≤2 ^ 24) (c3 : z.length = P.cellsOf e)
    (h1 : afill (fun i=>some (i * P.cellsOf e,P.cellsOf e)) (zrow (len * P.cellsOf e) z) (parts.toList.map fun p=>(p.1,ρ p.2)) = some cs) (hρ : ∀ x,VRel G (ρ x) (ρ' x)) (hs : SRel Γ G s w) :
    OpRes P Γ G (fun r s'=>∃ ob,s.objs ob = none∧r = .osl ob 0 (P.cellsOf e) len len∧s' = s.set ob cs) ((execOp ρ' o).run P w):=by
  obtain ⟨v,hv,rfl⟩:=zcells_some hz
  have hne : v.cells.toList≠[]:=by
    intro e'
    rw [e'] at c3
    simp at c3
    omega
  obtain ⟨vs,h2,h3⟩:=afill_sound (G:=G) (qs:=(parts.map fun p=>(p.1,ρ' p.2)).toList) _ h1 (by simpa using PartsRel.of_map hρ parts.toList) (VRels_zrow (len * P.cellsOf e) hne)
  obtain ⟨ob,k1,k2,k3,k4⟩:=hs.newObj h3 e
  refine (show execOp ρ' o = (do pure (.value (← Instr.buildSlice T len (parts.map fun p=>(p.1,ρ' p.2))))) by simp only [execOp,ho]) ▸ opres_value ⟨_,.slice (some ⟨w.heap.size,0,none⟩) len len,_,_,_,?_,k2,k3,?_,ob,k1,rfl,rfl⟩
  · simp only [Instr.buildSlice,Sem.run_bind,run_underlying hu,Result.andThen_ok,run_sizeOf' c1]
    rw [if_neg (by omega)]
    by_cases h0 : len * P.cellsOf e = 0
    · have hcells : (Array.range (len * P.cellsOf e)).map (fun i=>(#[] : Array Value)[i % (#[] : Array Value).size]!) = ((List.range (len * P.cellsOf e)).map fun i=>v.cells.toList.toArray[i % v.cells.toList.toArray.size]!).toArray:=by
        rw [h0]; simp
      rw [if_pos h0]
      simp only [Sem.run_bind,Sem.run_pure,Result.andThen_ok,hcells]
      simp only [h2]
      simp [newRow]
    · have hcells : (Array.range (len * P.cellsOf e)).map (fun i=>v.cells[i % v.cells.size]!) = ((List.range (len * P.cellsOf e)).map fun i=>v.cells.toList.toArray[i % v.cells.toList.toArray.size]!).toArray:=by
        apply Array.ext'
        simp
      rw [if_neg h0]
      simp only [Sem.run_bind,hv,Sem.run_pure,Result.andThen_ok,hcells]
      simp only [h2]
      simp [newRow]
  · simp only [VRel]
    exact ⟨_,k4,rfl,Nat.le_refl _⟩
end Go.AM
namespace Go.AM
open Go Go.RowKit
variable {P : Program} {Γ : Nat→List AV} {G : Gh} {s : AS} {w : World} {N : Nat} {E : Env}
def fen (R : Option Nat) : Fence:={ Fence.wide with round:=R }
theorem Oper.wpIn_of_res {l : Option Nat} {a : Act} {o : Oper} {K : AV→AS→Prop} {next : Act→World→Prop} {Q : Exit→Act→World→Prop} (hnd : ∀ c,o.op≠.defer c) (hr : Rel Γ N G E s a w) (hd : ∀ d,o.dst = some d→d < N)
    (h : OpRes P Γ G K ((execOp a.eval o).run P w)) (hn : ∀ G' r s' a' w',G.le G'→Rel Γ N G' (updO E o.dst r) s' a' w'→K r s'→next a' w') : o.wpIn (fen l) 0 P a w next Q:=by
  refine ⟨fun _ _=>trivial,?_⟩
  rw [Oper.semAt_eq _ _ _ hnd]
  generalize (execOp a.eval o).run P w = R at h
  cases R with
  | ok n w' =>
    cases n <;> simp only [OpRes] at h
    case value v =>
      obtain ⟨G',r,s',h1,h2,h3,h4⟩:=h
      simp only [Oper.uponIn]
      exact hn G' r s' _ _ h1 (hr.put h1 h2 h3 hd) h4
    case skip =>
      obtain ⟨G',s',h1,h2,h3⟩:=h
      simp only [Oper.uponIn]
      exact hn G' (.v undef) s' _ _ h1 (hr.put h1 h2 (by simp [VRel]) hd) h3
    case enter f args =>
      simp only [Oper.uponIn]
      refine ⟨(fun e=>by cases e),CallsIn.mono (F:=Fence.wide) (callsIn_wide.2 h) ?_⟩
      rintro e w'' ⟨G',r,v,s',rfl,h1,h2,h3,h4⟩
      exact hn G' r s' _ _ h1 (hr.put h1 h2 h3 hd) h4
  | halt x w'=>simp only [OpRes] at h
theorem astep_defer {ρ : Operand→AV} {K : AV→AS→Prop} {op : Op} (h : astep P Γ ρ s K op) (c : Call) : op≠.defer c:=by
  rintro rfl
  simp [astep,aval,aeff] at h
theorem AX_stepIn {l : Option Nat} {a : Act} {ops : Array Oper} {i : Nat} {I : List Nat} {o : Oper} {L : List Oper} {K : Env→AS→Prop} {Q : Exit→Act→World→Prop} (ho : ops[i]? = some o)
    (h : AX P Γ N ops (o :: L) K E s) (hr : Rel Γ N G E s a w) (hn : ∀ G' E' s' a' w',G.le G'→Rel Γ N G' E' s' a' w'→AX P Γ N ops L K E' s'→wpOpsIn (fen l) 0 P ops Q I a' w') : wpOpsIn (fen l) 0 P ops Q (i :: I) a w:=by
  simp only [AX] at h
  obtain ⟨hd,h⟩:=h
  simp only [wpOpsIn,ho]
  split at h
  · rename_i hg
    rw [if_pos (wanted_none hg)]
    exact Oper.wpIn_of_res (astep_defer h) hr hd (astep_sound o h hr.eval hr.st) fun G' r s' a' w' h1 h2 h3=>hn G' _ s' a' w' h1 h2 h3
  · rename_i j want hg
    split at h
    · exact h.elim
    · rename_i d hj
      split at h
      · rename_i t hE
        have hy:=yielded_of hr hj hE
        have hw : Region.wanted o (yielded ops a.tmps) = (t == want):=by simp [Region.wanted,hg,hy]
        split at h
        · rename_i ht
          rw [if_pos (by rw [hw]; simpa using ht)]
          exact Oper.wpIn_of_res (astep_defer h) hr hd (astep_sound o h hr.eval hr.st) fun G' r s' a' w' h1 h2 h3=>hn G' _ s' a' w' h1 h2 h3
        · rename_i ht
          rw [if_neg (by rw [hw]; simpa using ht)]
          exact ⟨fun _ _=>trivial,hn G _ s _ _ (.refl G) (hr.put (.refl G) hr.st (by simp [VRel]) hd) h⟩
      · rename_i c hE
        have hy:=yielded_none hr hj hE
        have hw : Region.wanted o (yielded ops a.tmps) = false:=by simp [Region.wanted,hg,hy]
        rw [if_neg (by rw [hw]; simp)]
        exact ⟨fun _ _=>trivial,hn G _ s _ _ (.refl G) (hr.put (.refl G) hr.st (by simp [VRel]) hd) h⟩
      · exact h.elim
theorem AX_wpOpsIn_append {l : Option Nat} {ops : Array Oper} {Q : Exit→Act→World→Prop} {K : Env→AS→Prop} : ∀ (L : List Oper) (I J : List Nat) {G : Gh} {E : Env} {s : AS} {a : Act} {w : World},I.map (ops[·]?) = L.map some→AX P Γ N ops L K E s→Rel Γ N G E s a w →
    (∀ G' E' s' a' w',G.le G'→Rel Γ N G' E' s' a' w'→K E' s'→wpOpsIn (fen l) 0 P ops Q J a' w')→wpOpsIn (fen l) 0 P ops Q (I ++ J) a w
  | [],I,J,G,E,s,a,w,hI,h,hr,hq=>by
    have : I = []:=by simpa using hI
    subst this
    exact hq G E s a w (.refl G) hr h
  | o :: L,I,J,G,E,s,a,w,hI,h,hr,hq=>by
    cases I with
    | nil=>simp at hI
    | cons i I =>
      simp only [List.map_cons,List.cons.injEq] at hI
      exact AX_stepIn hI.1 h hr fun G' E' s' a' w' h1 h2 h3=>AX_wpOpsIn_append L I J hI.2 h3 h2 fun G'' E'' s'' a'' w'' k1 k2 k3=>hq G'' E'' s'' a'' w'' (h1.trans k1) k2 k3
theorem AX_wpOpsIn {l : Option Nat} {ops : Array Oper} {Q : Exit→Act→World→Prop} {K : Env→AS→Prop} : ∀ (L : List Oper) (I : List Nat) {G : Gh} {E : Env} {s : AS} {a : Act} {w : World},I.map (ops[·]?) = L.map some→AX P Γ N ops L K E s→Rel Γ N G E s a w →
    (∀ G' E' s' a' w',G.le G'→Rel Γ N G' E' s' a' w'→K E' s'→Q .normal a' w')→wpOpsIn (fen l) 0 P ops Q I a w
  | [],I,G,E,s,a,w,hI,h,hr,hq=>by
    have : I = []:=by simpa using hI
    subst this
    exact hq G E s a w (.refl G) hr h
  | o :: L,I,G,E,s,a,w,hI,h,hr,hq=>by
    cases I with
    | nil=>simp at hI
    | cons i I =>
      simp only [List.map_cons,List.cons.injEq] at hI
      exact AX_stepIn hI.1 h hr fun G' E' s' a' w' h1 h2 h3=>AX_wpOpsIn L I hI.2 h3 h2 fun G'' E'' s'' a'' w'' k1 k2 k3=>hq G'' E'' s'' a'' w'' (h1.trans k1) k2 k3
theorem wpIn_reg {l : Option Nat} {id : Nat} {ops : Array Oper} {Q : Exit→Act→World→Prop} {K : Env→AS→Prop} {a : Act} (h : AY P Γ N ops ops.toList K E s) (hr : Rel Γ N G E s a w)
    (hq : ∀ G' E' s' a' w',G.le G'→Rel Γ N G' E' s' a' w'→K E' s'→Q .normal a' w') : (Code.region id ops false).wpIn (fen l) 0 P Q a w:=by
  rw [ay] at h
  refine wpIn_region (AX_wpOpsIn ops.toList _ ?_ h hr hq)
  apply List.ext_getElem?
  intro i
  simp only [List.getElem?_map]
  by_cases hi : i < ops.size
  · simp [hi]
  · simp [hi]
theorem cell_putObj {W : World} {k : Nat} {o o' : Obj} (hk : W.heap[k]? = some o) (ho : ∀ c T f,o≠.cells c T f) (ho' : ∀ c T f,o'≠.cells c T f) (b j : Nat) : (W.putObj k o').cell? ⟨b,j,none⟩ = W.cell? ⟨b,j,none⟩:=by
  by_cases e : b = k
  · subst e
    have h1:=World.putObj_heap_same (w:=W) (o:=o') (Array.getElem?_eq_some_iff.1 hk).1
    simp only [World.cell?,h1,hk]
    cases o <;> cases o' <;> first | rfl | exact absurd rfl (ho _ _ _) | exact absurd rfl (ho' _ _ _)
  · exact World.cell?_of_block (World.putObj_heap_other e)
theorem frozen_putObj {W : World} {k : Nat} {o o' : Obj} (hk : W.heap[k]? = some o) (ho : ∀ c T f,o≠.cells c T f) (ho' : ∀ c T f,o'≠.cells c T f) (b j : Nat) : (W.putObj k o').frozen? ⟨b,j,none⟩ = W.frozen? ⟨b,j,none⟩:=by
  by_cases e : b = k
  · subst e
    have h1:=World.putObj_heap_same (w:=W) (o:=o') (Array.getElem?_eq_some_iff.1 hk).1
    simp only [World.frozen?,h1,hk]
    cases o <;> cases o' <;> first | rfl | exact absurd rfl (ho _ _ _) | exact absurd rfl (ho' _ _ _)
  · exact World.frozen?_of_block (World.putObj_heap_other e)
theorem SRel.putObj {W : World} {k : Nat} {o o' : Obj} (h : SRel Γ G s W) (hk : W.heap[k]? = some o) (ho : ∀ c T f,o≠.cells c T f) (ho' : ∀ c T f,o'≠.cells c T f) (hB : G.w0.heap.size≤k) (hB' : G.B≤k) : SRel Γ G s (W.putObj k o'):=by
  have hg : W.grownBy (W.putObj k o') (some k):=⟨rfl,rfl,rfl,by simp [World.putObj],fun i _ hi=>World.putObj_heap_other (fun e=>hi (by rw [e]))⟩
  refine h.worldEq (fun b j=>cell_putObj hk ho ho' b j) (fun b j _ _=>frozen_putObj hk ho ho' b j) (by simp [World.putObj]) ?_ ?_ ?_
  · exact (Below.refl _ _).grown hg (by have:=(Array.getElem?_eq_some_iff.1 hk).1; omega) (fun i e=>by cases e; omega)
  · intro i x hi hx
    have hlt:=(Array.getElem?_eq_some_iff.1 hi).1
    rw [World.putObj_heap_other (by omega)]
    exact h.others i x hi hx
  · intro b c T lo hi hb hc
    by_cases e : b = k
    · subst e
      rw [World.putObj_heap_same (Array.getElem?_eq_some_iff.1 hk).1] at hc
      cases hc
      exact absurd rfl (ho' _ _ _)
    · rw [World.putObj_heap_other e] at hc
      exact h.soft b c T lo hi hb hc
def IterA (P : Program) (Γ : Nat→List AV) (gf : FuncId) (caps : List AV) (xs : List AV) : Prop :=
  ∀ (S : Nat→AS) (l : Nat) (G : Gh) (W : World) (lb : List Value),G.df = []→VRels G caps lb→SRel Γ G (S 0) W →
    (∀ i x G1 u W1,xs[i]? = some x→G.le G1→SRel Γ G1 (S i) W1→VRel G1 x u→YieldAt Fence.wide 0 P l #[u] W1 fun e W'=>e = .returned (.bool true)∧∃ G2,G1.le G2∧SRel Γ G2 (S (i + 1)) W') →
    CallsIn Fence.wide 0 P gf (#[.func (.yield l) #[] #[]] ++ lb.toArray) W fun e W'=>(∃ v,e = .returned v)∧∃ G2,G.le G2∧SRel Γ G2 (S xs.length) W'
theorem wpIn_range_rel {a : Act} {g : Operand} {p : Tmp} {assign body : Code} {gf : FuncId} {caps xs : List AV} (hr : Rel Γ N G E s a w) (hdf : G.df = []) (hg : aeval Γ E g = .clo gf caps) (hcb : callable P gf = true) (hit : IterA P Γ gf caps xs)
    (hp : p < N) (S : Nat→AS) (hS : S 0 = s) (E1 : AV→Env)
    (hassign : ∀ (l i : Nat) (x : AV) (G1 : Gh) (a1 : Act) (W : World),xs[i]? = some x→Rel Γ N G1 (upd E p x) (S i) a1 W →
      assign.wpIn (fen (some l)) 0 P (fun e a' W'=>e = .normal∧∃ G2,G1.le G2∧Rel Γ N G2 (E1 x) (S i) a' W') a1 W)
    (hbody : ∀ (l i : Nat) (x : AV) (G1 : Gh) (a1 : Act) (W : World),xs[i]? = some x→Rel Γ N G1 (E1 x) (S i) a1 W →
      body.wpIn (fen (some l)) 0 P (fun e a' W'=>e = .normal∧∃ G2,G1.le G2∧SRel Γ G2 (S (i + 1)) W') a1 W) :
    (Code.rangeFunc g #[p] assign body).wpIn Fence.wide 0 P (fun e a' w'=>e = .normal∧∃ D G',G.le G'∧w.heap.size≤D∧w'.heap[D]? = some (.deferred (some [])) ∧
      a' = { a with defers:={ target:=.collected D,args:=#[] } :: a.defers }∧SRel Γ G' (S xs.length) w') a w:=by
  have hgv:=hr.eval g
  rw [hg] at hgv
  simp only [VRel] at hgv
  obtain ⟨lb,hg',hlb⟩:=hgv
  have hw0 : G.w0.heap.size≤w.heap.size:=hr.st.below.size
  have hBw : G.B≤w.heap.size:=hr.st.base
  refine wpIn_rangeFunc ?_
  intro fn hfn
  obtain ⟨rec,hrec⟩ : ∃ rec : LoopState→Option Code→Loop,rec = fun st pe=>{ state:=st,pending:=pe,fn,tmps:=a.tmps,params:=#[p],assign,body,defers:=w.heap.size }:=⟨_,rfl⟩
  obtain ⟨W1,hW1⟩ : ∃ W1,(w.alloc (.deferred (some []))).alloc (.loop (rec .ready none)) = W1:=⟨_,rfl⟩
  have hL1 : W1.heap[w.heap.size + 1]? = some (.loop (rec .ready none)):=by
    rw [← hW1]; have:=World.alloc_heap_new (w.alloc (.deferred (some []))) (.loop (rec .ready none)); rwa [World.size_alloc] at this
  have hK1 : W1.heap[w.heap.size]? = some (.deferred (some [])):=by
    rw [← hW1]; exact (Below.heap_alloc _ _ _ (by simp)).trans (World.alloc_heap_new w _)
  have hs1 : SRel Γ G s W1:=by
    rw [← hW1]; exact (hr.st.alloc _ (by intro c T lo hi e; cases e)).alloc _ (by intro c T lo hi e; cases e)
  refine ⟨w.heap.size + 1,[{ target:=.collected w.heap.size,args:=#[] }],W1,{ target:=.fn (.func gf) lb.toArray,args:=#[.func (.yield (w.heap.size + 1)) #[] #[]] },W1,gf,
    #[.func (.yield (w.heap.size + 1)) #[] #[]] ++ lb.toArray,W1,?_,?_,?_,?_,(fun e=>by cases e),?_⟩
  · rw [← hW1,hrec]; exact run_enterLoop_outer _ _ _ _ _
  · simp only [resolve,hg']
    simp [go_sem]
  · intro f' _; trivial
  · have:=run_callFunc (w:=W1) hcb (#[.func (.yield (w.heap.size + 1)) #[] #[]] ++ lb.toArray)
    simpa [invoke,go_sem] using this
  · have hsW : SRel Γ (G.setW W1) s W1:=hs1.setW
    refine (hit S (w.heap.size + 1) (G.setW W1) W1 lb hdf (VRels.sub (G.sub_setW W1) _ _ hlb) (hS ▸ hsW) ?_).mono ?_
    · rintro i x G1 u W hx hle h2 hu
      have hw1 : G1.w0 = W1:=hle.w0
      have hB1 : G1.B = G.B:=hle.B
      have hkW : Keeps W1 W:=by have:=h2.others; rwa [hw1] at this
      have hl:=hkW _ _ hL1 (by intros; simp)
      have hk:=hkW _ _ hK1 (by intros; simp)
      have hbW : Below G.B W1 W:=by have:=h2.below; rwa [hw1,hB1] at this
      obtain ⟨q1,q2⟩:=hs1.backW hle h2
      have hlt : w.heap.size + 1 < W.heap.size:=(Array.getElem?_eq_some_iff.1 hl).1
      have hy:=run_yield (P:=P) (args:=#[u]) hl (by rw [hrec]; rfl)
      rw [hrec] at hy
      refine ⟨fn,_,assign,body,hy,roundIn_of_wpIn hfn ?_⟩
      have hrel0 : Rel Γ N ((G1.setW G.w0).setW W) (upd E p x) (S i) { tmps:=((#[p] : Array Tmp).zip #[u]).foldl (fun t (p,v)=>t.setIfInBounds p v) a.tmps,defers:=[] } W:=by
        have e3 : ((#[p] : Array Tmp).zip #[u]).foldl (fun t (p,v)=>t.setIfInBounds p v) a.tmps = a.tmps.setIfInBounds p u:=by simp
        rw [e3]
        refine ⟨q1.setW,by simp [hr.size],fun k=>?_,by rw [show ((G1.setW G.w0).setW W).df = G1.df from rfl,hle.df]; exact hdf.symm⟩
        refine VRel.sub (G:=G1.setW G.w0) (Gh.sub_setW _ _) _ _ ?_
        simp only [upd]
        split
        · rename_i e
          subst e
          have : k < a.tmps.size:=by rw [hr.size]; exact hp
          simpa [Array.getD,this] using VRel.sub (G1.sub_setW G.w0) _ _ hu
        · rename_i e
          have:=VRel.mono q2 _ _ (hr.tmps k)
          simp only [Array.getD_eq_getD_getElem?] at this ⊢
          rw [Array.getElem?_setIfInBounds_ne (by omega)]
          exact this
      refine wpIn_mono (hassign (w.heap.size + 1) i x _ _ W hx hrel0) ?_
      rintro e a1 Wa ⟨rfl,Ga,ga1,ga2⟩
      have hka : Keeps W Wa:=by
        have:=ga2.st.others
        rwa [show Ga.w0 = W from ga1.w0] at this
      have hba : Below G.B W Wa:=by
        have:=ga2.st.below
        rwa [show Ga.w0 = W from ga1.w0,show Ga.B = G.B from ga1.B.trans hB1] at this
      have hla:=hka _ _ hl (by intros; simp)
      have hkda:=hka _ _ hk (by intros; simp)
      obtain ⟨gb1,gb2⟩:=q1.backW ga1 ga2.st
      refine ⟨_,run_beginRound hla (by rw [hrec]),?_⟩
      have hlta : w.heap.size + 1 < Wa.heap.size:=(Array.getElem?_eq_some_iff.1 hla).1
      obtain ⟨W2,hW2⟩ : ∃ W2,Wa.putObj (w.heap.size + 1) (.loop { rec .ready none with state:=.busy }) = W2:=⟨_,rfl⟩
      have hl2 : W2.heap[w.heap.size + 1]? = some (.loop { rec .ready none with state:=.busy }):=by rw [← hW2]; exact World.putObj_heap_same hlta
      have hBa : Ga.B = G.B:=ga1.B.trans hB1
      have hs2 : SRel Γ (Ga.setW G.w0) (S i) W2:=by
        rw [← hW2]
        exact gb1.putObj hla (by intros; simp) (by intros; simp) (by show G.w0.heap.size≤_; omega) (by show Ga.B≤_; omega)
      rw [hW2]
      have hrel : Rel Γ N ((Ga.setW G.w0).setW W2) (E1 x) (S i) a1 W2 :=
        ⟨hs2.setW,ga2.size,fun k=>VRel.sub (G:=Ga) (G':=(Ga.setW G.w0).setW W2) ⟨rfl,rfl,rfl,rfl⟩ _ _ (ga2.tmps k),ga2.defers⟩
      refine wpIn_mono (hbody (w.heap.size + 1) i x _ _ W2 hx hrel) ?_
      rintro e a3 W3 ⟨rfl,G2,g1,g2⟩
      have hw3 : G2.w0 = W2:=g1.w0
      have hB3 : G2.B = G.B:=g1.B.trans hBa
      have hkp : Keeps W2 W3:=by
        have:=g2.others
        rwa [hw3] at this
      have hb3 : Below G.B W2 W3:=by
        have:=g2.below
        rwa [hw3,hB3] at this
      have hl3:=hkp _ _ hl2 (by intros; simp)
      obtain ⟨g3,g4⟩:=hs2.backW g1 g2
      have hr3 : (Instr.endRound (w.heap.size + 1) none).run P W3 = .ok (.bool true) (W3.putObj (w.heap.size + 1) (.loop (rec .ready none))):=by
        have:=run_endRound (P:=P) none hl3
        rw [hrec] at this ⊢
        exact this
      have hlt3 : w.heap.size + 1 < W3.heap.size:=(Array.getElem?_eq_some_iff.1 hl3).1
      have hs4:=g3.putObj (o':=.loop (rec .ready none)) hl3 (by intros; simp) (by intros; simp) (by show G.w0.heap.size≤_; omega) (by show G2.B≤_; omega)
      have hgr : ∀ (V : World) (o : Obj),w.heap.size + 1 < V.heap.size→Below G.B V (V.putObj (w.heap.size + 1) o):=fun V o hV =>
        (Below.refl _ _).grown (row:=some (w.heap.size + 1)) ⟨rfl,rfl,rfl,by simp [World.putObj],fun i _ hi=>World.putObj_heap_other (fun e=>hi (by rw [e]))⟩ (by omega) (fun i e=>by cases e; omega)
      refine ⟨_,_,hr3,rfl,G2.setW W1,?_,?_⟩
      · exact ⟨fun b j v hv=>g1.ro b j v (ga1.ro b j v hv),fun o b hb=>g1.obj o b (ga1.obj o b hb),fun t e r ht=>g1.tok t e r (ga1.tok t e r ht),g1.B.trans ga1.B,hw1.symm,g1.df.trans ga1.df⟩
      · refine hs4.sub (G:=G2.setW G.w0) (G':=G2.setW W1) ⟨rfl,rfl,rfl,rfl⟩ rfl rfl ?_ ?_
        · show Below G2.B W1 _
          rw [hB3]
          refine (hbW.trans hba).trans (Below.trans ?_ (hb3.trans (hgr _ _ hlt3)))
          rw [← hW2]
          exact hgr _ _ hlta
        · intro k o hko hno
          replace hko : W1.heap[k]? = some o:=hko
          by_cases e : k = w.heap.size + 1
          · subst e
            rw [hL1] at hko
            cases hko
            exact World.putObj_heap_same hlt3
          · rw [World.putObj_heap_other e]
            refine hkp k o ?_ hno
            rw [← hW2,World.putObj_heap_other e]
            exact hka k o (hkW k o hko hno) hno
    · rintro e W2 ⟨⟨v,rfl⟩,G2,h1,h2⟩
      have hw1 : G2.w0 = W1:=h1.w0
      have hkW : Keeps W1 W2:=by have:=h2.others; rwa [hw1] at this
      have hl:=hkW _ _ hL1 (by intros; simp)
      have hk:=hkW _ _ hK1 (by intros; simp)
      obtain ⟨q1,q2⟩:=hs1.backW h1 h2
      refine ⟨none,_,by have:=run_endLoop (P:=P) hl (by rw [hrec]; simp); rw [hrec] at this; exact this,rfl,w.heap.size,G2.setW G.w0,q2,Nat.le_refl _,(World.putObj_heap_other (by omega)).trans hk,rfl,?_⟩
      rw [hrec] at hl
      exact q1.putObj hl (by intros; simp) (by intros; simp) (by show G.w0.heap.size≤_; omega) (by rw [show (G2.setW G.w0).B = G2.B from rfl,h1.B]; show G.B≤_; omega)
theorem acalls_of_range {f : FuncId} {fn : Func} {c : Code} {args : List AV} {Post : AV→AS→Prop} {s : AS} (hf : P.funcs[f]? = some fn) (hb : fn.body = some c) (hn : args.length≤fn.ntmps)
    (h : ∀ G a w,G.df = []→Rel Γ fn.ntmps G (initE args) s a w→c.wpIn Fence.wide 0 P (fun e a' w'=>(e = .normal∨e = .ret)∧∃ D G' E' s',G.le G'∧(G.w0.heap.size≤D∧G.B≤D)∧w'.heap[D]? = some (.deferred (some [])) ∧
      a'.defers = [{ target:=.collected D,args:=#[] }]∧Rel Γ fn.ntmps (G'.setDf a'.defers) E' s' a' w'∧AEnds P fn.results.toList Post E' s') a w) : ACalls P Γ f args s Post:=by
  intro G w vs hs hv
  have hvl:=hv.length
  refine (callsIn_wide (n:=0)).1 (callsIn_of_wp_marks hf hb trivial ?_)
  have hrel : Rel Γ fn.ntmps (G.setDf []) (initE args) s { tmps:=vs.toArray ++ Array.replicate (fn.ntmps - vs.toArray.size) undef,defers:=[] } w:=by
    refine ⟨hs.setDf,by simp; omega,fun i=>?_,rfl⟩
    simp only [initE]
    by_cases hi : i < args.length
    · obtain ⟨u,h1,h2⟩:=hv.getD i hi
      have hi' : i < vs.length:=by omega
      rw [Array.getD_eq_getD_getElem?,Array.getElem?_append_left (by simpa using hi')]
      simp only [List.getElem?_toArray,h1,Option.getD_some]
      exact VRel.setDf _ _ h2
    · have e1 : args.getD i (.v undef) = .v undef:=by simp [List.getD,List.getElem?_eq_none (Nat.le_of_not_lt hi)]
      rw [e1,Array.getD_eq_getD_getElem?,Array.getElem?_append_right (by simp; omega)]
      simp only [VRel]
      cases hh : (Array.replicate (fn.ntmps - vs.toArray.size) undef)[i - vs.toArray.size]? with
      | none=>rfl
      | some u =>
        rw [Array.getElem?_replicate] at hh
        split at hh
        · cases hh; rfl
        · cases hh
  refine wpIn_mono (h _ _ w rfl hrel) ?_
  rintro e a' w' ⟨he,D,G',E',s',h1,hD,hk,hdf,h2,h3⟩
  have hw0 : G'.w0.heap.size≤D:=by
    rw [h1.w0]
    exact hD.1
  have hB : G'.B≤D:=by
    rw [h1.B]
    exact hD.2
  have fin : LeavesInM Fence.wide 0 P fn a'.tmps (fun e w'=>∃ G' r v s',e = .returned v∧G.le G'∧SRel Γ G' s' w'∧VRel G' r v∧Post r s') a'.defers .returning w':=by
    rw [hdf]
    refine ⟨by simp,.inl ⟨D,_,rfl,run_takeDeferred hk,?_⟩⟩
    have h4 : Rel Γ fn.ntmps (G'.setDf a'.defers) E' s' a' (w'.putObj D (.deferred none)):=⟨h2.st.putObj hk (by intros; simp) (by intros; simp) hw0 hB,h2.size,h2.tmps,h2.defers⟩
    unfold AEnds at h3
    split at h3
    · rename_i vs' hvs
      obtain ⟨r,s2,q1,q2,q3⟩:=h3
      obtain ⟨zs,r1,r2⟩:=run_aresL h4 hvs
      refine ⟨if h : zs.toArray.size = 1 then zs.toArray[0] else .tuple zs.toArray,?_,G'.setDf G.df,r,_,s2,rfl,Gh.le_setDf h1,(h4.st.mono q2).setDf (d:=G.df),VRel.setDf (G:=G'.setDf a'.defers) (d:=G.df) _ _ (q1 _ _ (VRel_tuple r2)),q3⟩
      rw [results_eq,Array.mapM_eq_mapM_toList]
      simp only [Sem.run_bind,Sem.run_map,r1,Result.andThen_ok,Sem.run_pure]
    · exact h3.elim
  rcases he with rfl | rfl
  · exact fin
  · exact fin
theorem AWp.wide {c : Code} {Q : Exit→Env→AS→Prop} {a : Act} (h : AWp P Γ N c Q E s) (hr : Rel Γ N G E s a w) {R : Exit→Act→World→Prop}
    (hq : ∀ e G' E' s' a' w',G.le G'→Rel Γ N G' E' s' a' w'→Q e E' s'→R e a' w') : c.wpIn Fence.wide 0 P R a w :=
  wpIn_wide.2 (wp_mono (h G a w hr) fun e a' w' ⟨G',E',s',h1,h2,h3,_⟩=>hq e G' E' s' a' w' h1 h2 h3)
theorem AWp.behind {c : Code} {Q : Exit→Env→AS→Prop} {a : Act} {G' : Gh} {D : Nat} {s' : AS} {w' : World} (hr : Rel Γ N G E s a w) (hle : G.le G') (hk : w'.heap[D]? = some (.deferred (some []))) (hs : SRel Γ G' s' w') (hdf : G.df = [])
    (h : AWp P Γ N c Q E s') {R : Exit→Act→World→Prop}
    (hq : ∀ e G'' E'' s'' a'' w'',G.le G''→w''.heap[D]? = some (.deferred (some []))→a''.defers = [{ target:=.collected D,args:=#[] }]→Rel Γ N (G''.setDf a''.defers) E'' s'' a'' w''→Q e E'' s''→R e a'' w'') :
    c.wpIn Fence.wide 0 P R { a with defers:={ target:=.collected D,args:=#[] } :: a.defers } w':=by
  have ha : a.defers = []:=hr.defers.trans hdf
  have hrel : Rel Γ N ((G'.setDf [{ target:=.collected D,args:=#[] }]).setW w') E s' { a with defers:={ target:=.collected D,args:=#[] } :: a.defers } w' :=
    ⟨(hs.setDf).setW,hr.size,fun i=>VRel.sub (Gh.sub_setW _ _) _ _ (VRel.setDf _ _ (VRel.mono hle _ _ (hr.tmps i))),by rw [ha]; rfl⟩
  refine h.wide hrel ?_
  intro e G2 E2 s2 a2 w2 g1 g2 g3
  have hkp : Keeps w' w2:=by
    have:=g2.st.others
    rwa [show G2.w0 = w' from g1.w0] at this
  have hd2 : a2.defers = [{ target:=.collected D,args:=#[] }]:=g2.defers.trans g1.df
  have hb:=SRel.backW (G:=G'.setDf [{ target:=.collected D,args:=#[] }]) hs.setDf g1 g2.st
  refine hq e (((G2.setW G'.w0)).setDf G'.df) E2 s2 a2 w2 ?_ (hkp _ _ hk (by intros; simp)) hd2 ?_ g3
  · refine hle.trans ?_
    exact ⟨hb.2.ro,hb.2.obj,hb.2.tok,hb.2.B,hb.2.w0,rfl⟩
  · refine ⟨?_,g2.size,fun i=>?_,rfl⟩
    · exact hb.1.setDf (d:=a2.defers)
    · exact VRel.sub (G:=G2) (G':=((G2.setW G'.w0).setDf G'.df).setDf a2.defers) ⟨rfl,rfl,rfl,rfl⟩ _ _ (g2.tmps i)
end Go.AM
namespace Go.AM
open Go Go.RowKit
variable {P : Program} {Γ : Nat→List AV} {G : Gh} {s : AS} {w : World}
theorem run_append_made {n : Nat} {T xT e : TypeId} (hT : P.underlying T = some (.slice e)) {k : IntKind} (hx : P.underlying xT = some (.int k)) {z : List AV} (he : ElemOk P e z)
    (h0 : n≠0) (hfit : n * P.bytesOf e≤2 ^ 46) (h63 : n≤2 ^ 46) (ty : TypeId) :
    ∃ (cap : Nat) (us : List Value),n≤cap∧us.length = cap * P.cellsOf e ∧
      (Builtin.append_ #[T,xT] ty #[.slice none 0 0,.int .i64 n]).run P w = .ok (.slice (some ⟨w.heap.size,0,none⟩) n cap) (w.drew.alloc (.cells us.toArray e)):=by
  obtain ⟨hz,hsz,hzl⟩:=he
  obtain ⟨zv,hz1,hz2⟩:=zcells_some hz
  obtain ⟨i,hi⟩:=info_of_cells hsz
  have hb : P.bytesOf e = i.bytes:=by simp [Program.bytesOf,hi]
  have hti : ∀ w',(typeInfo e).run P w' = .ok i w':=fun w'=>by simp [typeInfo,hi]
  have hslice:=nextslicecap_le (need:=n) (old:=0) (by omega)
  have hnot48 : ¬ (2 ^ 48 < Builtin.nextslicecap n 0 * i.bytes):=by
    rw [hb] at hfit
    have h2 : Builtin.nextslicecap n 0 * i.bytes≤2 * n * i.bytes:=Nat.mul_le_mul_right _ hslice
    rw [Nat.mul_assoc] at h2
    omega
  have hzl' : zv.cells.size = P.cellsOf e:=by
    rw [hz2] at hzl
    simpa using hzl
  have hw : IntKind.i64.wrap (n : Int) = n:=IntWalk.i64_in _ (by omega)
  have hneg : ¬ ((n : Int) < 0):=by omega
  have hne : ¬ (n * P.cellsOf e = 0):=by
    intro h
    rcases Nat.mul_eq_zero.1 h with h | h
    · exact h0 h
    · exact hsz h
  have hbig : ¬ ((281474976710656 : Int) < (n : Int) * (i.bytes : Int)):=by
    rw [hb] at hfit
    have : ((n * i.bytes : Nat) : Int)≤((2 ^ 46 : Nat) : Int):=Int.ofNat_le.2 hfit
    rw [Int.natCast_mul] at this
    omega
  have hnot63 : ¬ (9223372036854775807 < (n : Int)):=by omega
  refine ⟨_,(Builtin.zeroCells zv.cells n ++ Builtin.zeroCells zv.cells ((Question.appendCap n 0 e).cut (w.tape w.drawn (.appendCap n 0 e)) - n)).toList,cut_appendCap n 0 e (w.tape w.drawn (.appendCap n 0 e)),?_,?_⟩
  · have:=cut_appendCap n 0 e (w.tape w.drawn (.appendCap n 0 e))
    simp only [Builtin.zeroCells,Array.toList_append,List.length_append,Array.length_toList,hzl']
    simp [hzl']
    rw [← Nat.add_mul]
    congr 1
    omega
  · have hf : (Question.appendCap n 0 e).forced = false:=rfl
    have hgt : ¬ (n≤0):=by omega
    simp [Builtin.append_,run_underlying hT,run_sizeOf' hsz,run_underlying hx,asInt,asIntOf,hw,hneg,hti,hbig,hnot63,hnot48,hf,hz1,newRow,hne,h0,Builtin.firstCells]
    congr 2
    apply Array.ext'
    simp
theorem awp_reg_grow {N : Nat} {E : Env} {Q : Exit→Env→AS→Prop} {id : Nat} (L1 L2 L3 : List Oper) {oa os : Oper} {T xT e ty : TypeId} {k : IntKind} {x y h : Operand} {d1 d2 : Tmp} {z : List AV}
    (hoa : oa.op = .call { callee:=.builtin .append,args:=#[x,y],argTypes:=#[T,xT] }) (hga : oa.guard = none) (hda : oa.dst = some d1) (hd1 : d1 < N)
    (hos : os.op = .slice ty (.tmp d1) none (some h) none) (hgs : os.guard = none) (hds : os.dst = some d2) (hd2 : d2 < N)
    (hT : P.underlying T = some (.slice e)) (hty : P.underlying ty = some (.slice e)) (hx : P.underlying xT = some (.int k)) (he : ElemOk P e z) (hc1 : P.cellsOf e = 1)
    (hh : AY P Γ N (L1 ++ oa :: (L2 ++ os :: L3)).toArray L1 (fun E1 s1=>aeval Γ E1 x = .v (.slice none 0 0)∧∃ n : Nat,aeval Γ E1 y = .v (.int .i64 n)∧n≠0∧n * P.bytesOf e≤2 ^ 46∧n≤2 ^ 46 ∧
      ∀ t v,s1.own t = none→AY P Γ N (L1 ++ oa :: (L2 ++ os :: L3)).toArray L2 (fun E2 s2=>E2 d1 = .v v∧aeval Γ E2 h = .v (.int .i64 0) ∧
        AY P Γ N (L1 ++ oa :: (L2 ++ os :: L3)).toArray L3 (fun E' s'=>Q .normal E' s') (upd E2 d2 (.sl 1 0 [] (.own t 0))) s2) (upd E1 d1 (.v v)) (s1.gain t 0)) E s) :
    AWp P Γ N (.region id (L1 ++ oa :: (L2 ++ os :: L3)).toArray false) Q E s:=by
  generalize hops : (L1 ++ oa :: (L2 ++ os :: L3)).toArray = ops at hh ⊢
  rw [ay] at hh
  intro G a w hr
  refine wp_region ?_
  have hall : ∀ ops : Array Oper,(List.range ops.size).map (ops[·]?) = ops.toList.map some:=by
    intro ops
    apply List.ext_getElem?
    intro i
    simp only [List.getElem?_map]
    by_cases hi : i < ops.size
    · simp [hi]
    · simp [hi]
  have hmap:=hall ops
  generalize hI : List.range ops.size = I at hmap
  have hop : ops.toList = L1 ++ oa :: (L2 ++ os :: L3):=by rw [← hops]
  rw [hop] at hmap
  have split2 : ∀ (I : List Nat) (A : List Oper) (o : Oper) (B : List Oper),I.map (ops[·]?) = (A ++ o :: B).map some→∃ I1 i I2,I = I1 ++ i :: I2∧I1.map (ops[·]?) = A.map some∧ops[i]? = some o∧I2.map (ops[·]?) = B.map some:=by
    intro I A o B hm
    have h1 : (I.take A.length).map (ops[·]?) = A.map some:=by rw [List.map_take,hm]; simp
    have h2 : (I.drop A.length).map (ops[·]?) = (o :: B).map some:=by rw [List.map_drop,hm]; simp
    generalize hI2 : I.drop A.length = J at h2
    cases J with
    | nil=>simp at h2
    | cons i I2 =>
      simp only [List.map_cons,List.cons.injEq] at h2
      exact ⟨I.take A.length,i,I2,by rw [← hI2,List.take_append_drop],h1,h2.1,h2.2⟩
  obtain ⟨I1,i1,J,rfl,m1,mo1,mJ⟩:=split2 I L1 oa (L2 ++ os :: L3) hmap
  obtain ⟨I2,i2,I3,rfl,m2,mo2,m3⟩:=split2 J L2 os L3 mJ
  refine AX_wpOps_append L1 I1 (i1 :: (I2 ++ i2 :: I3)) m1 (AX_frame _ hh) hr ?_
  rintro G1 E1 s1 a1 w1 hG1 hr1 ⟨⟨hxe,n,hye,hn0,hnb,hn46,hk⟩,hfr1⟩
  rw [wpOps_cons]
  simp only [wpOp,mo1]
  rw [if_pos (wanted_none hga)]
  refine .inl ?_
  have hxr:=hr1.eval x
  rw [hxe] at hxr
  have hyr:=hr1.eval y
  rw [hye] at hyr
  simp only [VRel] at hxr hyr
  obtain ⟨cap,us,hcap,hus,hrun⟩:=run_append_made (P:=P) (w:=w1) hT hx he hn0 hnb hn46 oa.type
  have hto : s1.own G1.nt = none:=hr1.st.own_isNone (Nat.le_refl _)
  obtain ⟨G2,g1,g2,g3,g4,g5,g6⟩:=hr1.st.drew.newRoTok [] us e G1.nt 0 (fun e' _=>hr1.st.freshT _ (Nat.le_refl _) e')
  simp only [List.nil_append,List.length_nil] at g2 g4
  rw [hus,hc1,Nat.mul_one] at g4
  have hk:=hk G1.nt (.slice (some ⟨w1.heap.size,0,none⟩) n cap) hto
  have hex1 : (execOp a1.eval oa).run P w1 = .ok (.value (.slice (some ⟨w1.heap.size,0,none⟩) n cap)) (w1.drew.alloc (.cells us.toArray e)):=by
    rw [run_execOp_builtin hoa]
    simp [builtin,hxr,hyr,hrun]
  unfold Oper.wp
  rw [hex1]
  simp only [Oper.upon]
  have hr2:=hr1.put (dst:=oa.dst) g1 g2 (r:=.v (.slice (some ⟨w1.heap.size,0,none⟩) n cap)) (v:=.slice (some ⟨w1.heap.size,0,none⟩) n cap) (by simp [VRel]) (by intro d hd; rw [hda] at hd; cases hd; exact hd1)
  rw [hda] at hr2 ⊢
  simp only [updO] at hr2
  refine AX_wpOps_append L2 I2 (i2 :: I3) m2 (AX_frame _ hk) hr2 ?_
  rintro G3 E3 s3 a3 w3 hG3 hr3 ⟨⟨hd,hhe,hk3⟩,hfr3⟩
  rw [wpOps_cons]
  simp only [wpOp,mo2]
  rw [if_pos (wanted_none hgs)]
  refine .inl ?_
  have hdr:=hr3.tmps d1
  rw [hd] at hdr
  have hhr:=hr3.eval h
  rw [hhe] at hhr
  simp only [VRel] at hdr hhr
  have hb:=run_sliceBounds (P:=P) (isSlice:=true) (len:=n) (cap:=cap) (l:=0) (h:=0) (lo:=none) (hi:=some (.int .i64 0)) (.inl ⟨rfl,rfl⟩) (.inr ⟨_,rfl⟩) (Int.le_refl 0) (Int.le_refl 0) (by omega) w3
  have hcs : P.cellsOf e≠0:=he.2.1
  have hrun2 : (Instr.sliceAt ty (.slice (some ⟨w1.heap.size,0,none⟩) n cap) none (some (.int .i64 0)) none).run P w3 = .ok (.slice (some ⟨w1.heap.size,0,none⟩) 0 cap) w3:=by
    rw [sliceAt_slice hty]
    simp [Instr.slice,run_underlying hty,hb,run_sizeOf' hcs,Addr.add]
  have hex : (execOp a3.eval os).run P w3 = .ok (.value (.slice (some ⟨w1.heap.size,0,none⟩) 0 cap)) w3:=by
    obtain ⟨dst,op,type,pos,after,guard⟩:=os
    simp only at hos
    subst hos
    have e1 : a3.eval (.tmp d1) = .slice (some ⟨w1.heap.size,0,none⟩) n cap:=hdr
    simp [execOp,e1,hhr,hrun2]
  unfold Oper.wp
  rw [hex]
  simp only [Oper.upon]
  have hr4:=hr3.put (dst:=os.dst) (Gh.le.refl G3) hr3.st (r:=.sl 1 0 [] (.own G1.nt 0)) (v:=.slice (some ⟨w1.heap.size,0,none⟩) 0 cap) (by
    simp only [VRel]
    refine .inl ⟨w1.heap.size,0,cap,[],rfl,by simp,by omega,by simp [VRels],fun j u hj=>by simp at hj,?_⟩
    simp only [SpRel,Nat.zero_mul,Nat.add_zero,Nat.zero_add,Nat.mul_one]
    have:=hG3.tok _ _ _ g4
    simpa using this) (by intro d hd'; rw [hds] at hd'; cases hd'; exact hd2)
  rw [hds] at hr4 ⊢
  simp only [updO] at hr4
  refine AX_wpOps L3 I3 m3 (AX_frame _ hk3) hr4 ?_
  rintro G5 E5 s5 a5 w5 hG5 hr5 ⟨hk5,hfr5⟩
  refine ⟨G5,E5,s5,hG1.trans (g1.trans (hG3.trans hG5)),hr5,hk5,?_⟩
  intro i hi
  have mem : ∀ L : List Oper,i ∈ dsts L↔∃ o ∈ L,o.dst = some i:=fun L=>by simp [dsts,List.mem_filterMap]
  simp only [writes] at hi
  rw [hop] at hi
  have hi' : ¬ ∃ o' ∈ L1 ++ oa :: (L2 ++ os :: L3),o'.dst = some i:=fun hm=>hi ((mem _).2 hm)
  have q1 : i ∉ dsts L1:=fun hm=>hi' (by obtain ⟨o,k1,k2⟩:=(mem _).1 hm; exact ⟨o,by simp [k1],k2⟩)
  have q2 : i ∉ dsts L2:=fun hm=>hi' (by obtain ⟨o,k1,k2⟩:=(mem _).1 hm; exact ⟨o,by simp [k1],k2⟩)
  have q3 : i ∉ dsts L3:=fun hm=>hi' (by obtain ⟨o,k1,k2⟩:=(mem _).1 hm; exact ⟨o,by simp [k1],k2⟩)
  have q4 : i≠d1:=fun e=>hi' ⟨oa,by simp,by rw [e]; exact hda⟩
  have q5 : i≠d2:=fun e=>hi' ⟨os,by simp,by rw [e]; exact hds⟩
  rw [hfr5 i q3,upd_ne _ _ q5,hfr3 i q2,upd_ne _ _ q4,hfr1 i q1]
theorem awp_reg_grow10 {N : Nat} {E : Env} {Q : Exit→Env→AS→Prop} {id : Nat} {o1 o2 o3 o4 o5 oa o7 o8 os o10 : Oper} {T xT e ty : TypeId} {k : IntKind} {x y h : Operand} {d1 d2 : Tmp} {z : List AV}
    (hoa : oa.op = .call { callee:=.builtin .append,args:=#[x,y],argTypes:=#[T,xT] }) (hga : oa.guard = none) (hda : oa.dst = some d1) (hd1 : d1 < N)
    (hos : os.op = .slice ty (.tmp d1) none (some h) none) (hgs : os.guard = none) (hds : os.dst = some d2) (hd2 : d2 < N)
    (hT : P.underlying T = some (.slice e)) (hty : P.underlying ty = some (.slice e)) (hx : P.underlying xT = some (.int k)) (he : ElemOk P e z) (hc1 : P.cellsOf e = 1)
    (hh : ∀ ops : Array Oper,AY P Γ N ops [o1,o2,o3,o4,o5] (fun E1 s1=>aeval Γ E1 x = .v (.slice none 0 0)∧∃ n : Nat,aeval Γ E1 y = .v (.int .i64 n)∧n≠0∧n * P.bytesOf e≤2 ^ 46∧n≤2 ^ 46 ∧
      ∀ t v,s1.own t = none→AY P Γ N ops [o7,o8] (fun E2 s2=>E2 d1 = .v v∧aeval Γ E2 h = .v (.int .i64 0) ∧
        AY P Γ N ops [o10] (fun E' s'=>Q .normal E' s') (upd E2 d2 (.sl 1 0 [] (.own t 0))) s2) (upd E1 d1 (.v v)) (s1.gain t 0)) E s) :
    AWp P Γ N (.region id #[o1,o2,o3,o4,o5,oa,o7,o8,os,o10] false) Q E s :=
  awp_reg_grow [o1,o2,o3,o4,o5] [o7,o8] [o10] hoa hga hda hd1 hos hgs hds hd2 hT hty hx he hc1 (hh _)
def OutS (s : AS) (l : List UInt8) (r : AV) (s' : AS) : Prop :=
  s.le s'∧((l = []∧r = .v (.slice none 0 0))∨∃ t e,s.own t = none∧s'.own t = some e∧r = .sl 1 l.length (l.map byteV) (.own t e))
theorem OutS.nil (s : AS) : OutS s [] (.v (.slice none 0 0)) s:=⟨AS.le.refl s,.inl ⟨rfl,rfl⟩⟩
theorem OutS.weak {s s' : AS} {l : List UInt8} {r : AV} (h : OutS s l r s') : r.weak (bytesV l .any):=by
  rcases h.2 with ⟨rfl,rfl⟩ | ⟨t,e,_,_,rfl⟩
  · exact AV.weak_nil
  · exact AV.weak_any
theorem all_one_bytes (l : List UInt8) : (l.map byteV).all AV.one = true:=by
  rw [List.all_eq_true]
  intro x hx
  obtain ⟨n,_,rfl⟩:=List.mem_map.1 hx
  rfl
theorem aappend_out {e : TypeId} {K : AV→AS→Prop} {s s1 : AS} {l ds : List UInt8} {r : AV} {m : Nat} {cs : List AV} (h : OutS s l r s1) (hm : m = ds.length) (hcs : cs = ds.map byteV) (he : P.cellsOf e = 1) (hb : P.bytesOf e = 1) (hlen : l.length + ds.length≤2 ^ 45)
    (hk : ∀ r2 s2,OutS s (l ++ ds) r2 s2→K r2 s2) : aappend P e r m cs s1 K:=by
  subst hm hcs
  rcases h.2 with ⟨rfl,rfl⟩ | ⟨t,g,h1,h2,rfl⟩
  · rw [aappend_nil]
    split
    · rename_i h0
      have : ds = []:=List.eq_nil_of_length_eq_zero h0
      subst this
      exact hk _ _ h
    · rename_i h0
      rw [he,hb]
      simp only [List.length_nil,Nat.zero_add] at hlen
      refine ⟨by omega,by omega,fun t ht=>hk _ _ ?_⟩
      refine ⟨AS.le_gain h.1 ?_ 0,.inr ⟨t,0,?_,AS.gain_own_same _ _ _,by simp⟩⟩
      all_goals
        cases hs : s.own t with
        | none=>rfl
        | some g=>rw [h.1.own t g hs] at ht; cases ht
  · rw [aappend_own]
    split
    · rename_i h0
      have : ds = []:=List.eq_nil_of_length_eq_zero h0
      subst this
      exact hk _ _ (by simpa using h)
    · rename_i h0
      rw [he,hb]
      refine ⟨rfl,by omega,by omega,all_one_bytes ds,h2,hk _ _ ?_⟩
      exact ⟨AS.le_gain h.1 h1 _,.inr ⟨t,g + 1,h1,AS.gain_own_same _ _ _,by simp⟩⟩
end Go.AM
namespace Go.AM
open Go Go.RowKit
variable {P : Program} {Γ : Nat→List AV} {G : Gh} {s : AS} {w : World} {N : Nat} {E : Env}
theorem run_yield_op {ρ : Operand→Value} {o : Oper} {f x : Operand} {ts : Array TypeId} {l : Nat} (ho : o.op = .call { callee:=.value f,args:=#[x],argTypes:=ts }) (hf : ρ f = .func (.yield l) #[] #[]) :
    (execOp ρ o).run P w = (Instr.yield l #[ρ x]).run P w:=by
  obtain ⟨dst,op,type,pos,after,guard⟩:=o
  simp only at ho
  subst ho
  simp [execOp,resolve,hf,Deferred.ofValue,invoke]
theorem range_map (ops : Array Oper) : (List.range ops.size).map (ops[·]?) = ops.toList.map some:=by
  apply List.ext_getElem?
  intro i
  simp only [List.getElem?_map]
  by_cases hi : i < ops.size
  · simp [hi]
  · simp [hi]
theorem split_ops {ops : Array Oper} {I : List Nat} {A B : List Oper} {o : Oper} (hm : I.map (ops[·]?) = (A ++ o :: B).map some) : ∃ I1 i I2,I = I1 ++ i :: I2∧I1.map (ops[·]?) = A.map some∧ops[i]? = some o∧I2.map (ops[·]?) = B.map some:=by
  have h1 : (I.take A.length).map (ops[·]?) = A.map some:=by rw [List.map_take,hm]; simp
  have h2 : (I.drop A.length).map (ops[·]?) = (o :: B).map some:=by rw [List.map_drop,hm]; simp
  generalize hI2 : I.drop A.length = J at h2
  cases J with
  | nil=>simp at h2
  | cons i I2 =>
    simp only [List.map_cons,List.cons.injEq] at h2
    exact ⟨I.take A.length,i,I2,by rw [← hI2,List.take_append_drop],h1,h2.1,h2.2⟩
theorem wpIn_reg_yield {l id : Nat} (L1 L2 : List Oper) {o : Oper} {f x : Operand} {ts : Array TypeId} {a : Act} {Q : Exit→Act→World→Prop} {K1 : Env→AS→Prop} {K2 : Env→AS→Prop}
    (ho : o.op = .call { callee:=.value f,args:=#[x],argTypes:=ts }) (hg : o.guard = none) (hd : ∀ d,o.dst = some d→d < N)
    (h1 : AY P Γ N (L1 ++ o :: L2).toArray L1 (fun E1 s1=>aeval Γ E1 f = .v (.func (.yield l) #[] #[])∧K1 E1 s1) E s) (hr : Rel Γ N G E s a w)
    (hy : ∀ G1 E1 s1 a1 w1,G.le G1→Rel Γ N G1 E1 s1 a1 w1→K1 E1 s1→YieldAt Fence.wide 0 P l #[a1.eval x] w1 fun e W'=>e = .returned (.bool true)∧∃ G2 s2,G1.le G2∧SRel Γ G2 s2 W' ∧
      AY P Γ N (L1 ++ o :: L2).toArray L2 K2 (updO E1 o.dst (.v (.bool true))) s2)
    (hq : ∀ G' E' s' a' w',G.le G'→Rel Γ N G' E' s' a' w'→K2 E' s'→Q .normal a' w') : (Code.region id (L1 ++ o :: L2).toArray false).wpIn Fence.wide 0 P Q a w:=by
  rw [ay] at h1
  refine wpIn_region ?_
  have hmap:=range_map (L1 ++ o :: L2).toArray
  generalize List.range (L1 ++ o :: L2).toArray.size = I at hmap ⊢
  obtain ⟨I1,i,I2,rfl,m1,mo,m2⟩:=split_ops (A:=L1) (B:=L2) (o:=o) hmap
  refine AX_wpOpsIn_append (l:=none) L1 I1 (i :: I2) m1 h1 hr ?_
  rintro G1 E1 s1 a1 w1 hG1 hr1 ⟨hf,hk1⟩
  have hfr:=hr1.eval f
  rw [hf] at hfr
  simp only [VRel] at hfr
  obtain ⟨fn,tmps,assign,body,q1,q2⟩:=hy G1 E1 s1 a1 w1 hG1 hr1 hk1
  simp only [wpOpsIn,mo]
  rw [if_pos (wanted_none hg)]
  refine ⟨fun _ _=>trivial,?_⟩
  rw [Oper.semAt_eq _ _ _ (by intro c; rw [ho]; simp),run_yield_op ho hfr,q1]
  rw [Oper.uponIn_round]
  refine ⟨fun e=>(by cases e),RoundIn.mono (F:=Fence.wide) q2 ?_⟩
  rintro e W' ⟨rfl,G2,s2,g1,g2,g3⟩
  rw [ay] at g3
  have hr2 : Rel Γ N G2 E1 s2 a1 W':=⟨g2,hr1.size,fun i=>VRel.mono g1 _ _ (hr1.tmps i),hr1.defers.trans g1.df.symm⟩
  have hr3:=hr2.put (dst:=o.dst) (Gh.le.refl G2) g2 (r:=.v (.bool true)) (v:=.bool true) (by simp [VRel]) hd
  exact AX_wpOpsIn (l:=none) L2 I2 m2 g3 hr3 fun G3 E3 s3 a3 w3 h3 hr3 hk=>hq G3 E3 s3 a3 w3 (hG1.trans (g1.trans h3)) hr3 hk
theorem wpIn_reg_yield12 {l id : Nat} {o1 o2 o3 o4 o5 o6 o7 o8 o9 o10 o o12 : Oper} {f x : Operand} {ts : Array TypeId} {a : Act} {Q : Exit→Act→World→Prop} (K1 K2 : Env→AS→Prop)
    (ho : o.op = .call { callee:=.value f,args:=#[x],argTypes:=ts }) (hg : o.guard = none) (hd : ∀ d,o.dst = some d→d < N)
    (h1 : ∀ ops,AY P Γ N ops [o1,o2,o3,o4,o5,o6,o7,o8,o9,o10] (fun E1 s1=>aeval Γ E1 f = .v (.func (.yield l) #[] #[])∧K1 E1 s1) E s) (hr : Rel Γ N G E s a w)
    (hy : ∀ ops G1 E1 s1 a1 w1,G.le G1→Rel Γ N G1 E1 s1 a1 w1→K1 E1 s1→YieldAt Fence.wide 0 P l #[a1.eval x] w1 fun e W'=>e = .returned (.bool true)∧∃ G2 s2,G1.le G2∧SRel Γ G2 s2 W' ∧
      AY P Γ N ops [o12] K2 (updO E1 o.dst (.v (.bool true))) s2)
    (hq : ∀ G' E' s' a' w',G.le G'→Rel Γ N G' E' s' a' w'→K2 E' s'→Q .normal a' w') : (Code.region id #[o1,o2,o3,o4,o5,o6,o7,o8,o9,o10,o,o12] false).wpIn Fence.wide 0 P Q a w :=
  wpIn_reg_yield (K1:=K1) (K2:=K2) [o1,o2,o3,o4,o5,o6,o7,o8,o9,o10] [o12] ho hg hd (h1 _) hr (hy _) hq
theorem Rel.entry {args : List AV} {vs : List Value} (hs : SRel Γ G s w) (hv : VRels G args vs) (hn : args.length≤N) (hdf : G.df = []) :
    Rel Γ N G (initE args) s { tmps:=vs.toArray ++ Array.replicate (N - vs.toArray.size) undef,defers:=[] } w:=by
  have hvl:=hv.length
  refine ⟨hs,by simp; omega,fun i=>?_,hdf.symm⟩
  simp only [initE]
  by_cases hi : i < args.length
  · obtain ⟨u,h1,h2⟩:=hv.getD i hi
    have hi' : i < vs.length:=by omega
    rw [Array.getD_eq_getD_getElem?,Array.getElem?_append_left (by simpa using hi')]
    simp only [List.getElem?_toArray,h1,Option.getD_some]
    exact h2
  · have e1 : args.getD i (.v undef) = .v undef:=by simp [List.getD,List.getElem?_eq_none (Nat.le_of_not_lt hi)]
    rw [e1,Array.getD_eq_getD_getElem?,Array.getElem?_append_right (by simp; omega)]
    simp only [VRel]
    cases hh : (Array.replicate (N - vs.toArray.size) undef)[i - vs.toArray.size]? with
    | none=>rfl
    | some u =>
      rw [Array.getElem?_replicate] at hh
      split at hh
      · cases hh; rfl
      · cases hh
end Go.AM
namespace Go.AM
open Go Go.RowKit
variable {P : Program} {Γ : Nat→List AV} {N : Nat}
theorem Ghost.trans {E E' E'' : Env} {s s' s'' : AS} (h : Ghost Γ N E s E' s') (k : Ghost Γ N E' s' E'' s'') : Ghost Γ N E s E'' s'':=by
  intro G a w hr
  obtain ⟨G1,h1,h2⟩:=h G a w hr
  obtain ⟨G2,k1,k2⟩:=k G1 a w h2
  exact ⟨G2,h1.trans k1,k2⟩
theorem awp_reg_frz2 {E : Env} {s : AS} {Q : Exit→Env→AS→Prop} (d1 d2 : Nat) {id : Nat} {L : List Oper} {y : Code} (hd1 : d1 ∈ dsts L) (hd2 : d2 ∈ dsts L) (hne : d1≠d2)
    (h : ∀ K : Env→AS→Prop,(∀ E s o1 o2 cs1 cs2,E d1 = .ptr o1 0→E d2 = .ptr o2 0→s.objs o1 = none→(s.set o1 cs1).objs o2 = none→AWp P Γ N y Q (upd (upd E d2 (.rop cs2)) d1 (.rop cs1)) s→K E ((s.set o1 cs1).set o2 cs2))→AY P Γ N L.toArray L K E s) :
    AWp P Γ N (.seq (.region id L.toArray false) y) Q E s:=by
  refine awp_seq (awp_region_ghost ?_)
  have:=h (fun E' s'=>∃ E'' s'',Ghost Γ N E' s' E'' s''∧(∀ i,i ∉ dsts L→E'' i = E' i)∧thenQ (AWp P Γ N y Q) Q .normal E'' s'') ?_
  · rw [ay] at this
    simpa using this
  · intro E' s' o1 o2 cs1 cs2 h1 h2 h3 h4 h5
    refine ⟨upd (upd E' d2 (.rop cs2)) d1 (.rop cs1),s',?_,?_,h5⟩
    · have g1:=Ghost.freezeBox (Γ:=Γ) (N:=N) (E:=E') (s:=(s'.set o1 cs1).set o2 cs2) (d:=d2) h2 (AS.set_objs_same _ _ _)
      rw [AS.drop_set h4] at g1
      have g2:=Ghost.freezeBox (Γ:=Γ) (N:=N) (E:=upd E' d2 (.rop cs2)) (s:=s'.set o1 cs1) (d:=d1) (by rw [upd_ne _ _ hne]; exact h1) (AS.set_objs_same _ _ _)
      rw [AS.drop_set h3] at g2
      exact g1.trans g2
    · intro i hi
      rw [upd_ne _ _ (fun e=>hi (by rw [e]; exact hd1)),upd_ne _ _ (fun e=>hi (by rw [e]; exact hd2))]
theorem AS.set_self {s : AS} {o : Nat} {cs : List AV} (h : s.objs o = some cs) : s.set o cs = s:=by
  cases s with
  | mk objs own =>
    simp only [AS.set,AS.mk.injEq,and_true]
    funext i
    simp only [upd]
    split
    · rename_i e; subst e; exact h.symm
    · rfl
end Go.AM
namespace Go.AM
open Go Go.RowKit
variable {P : Program} {Γ : Nat→List AV} {G : Gh} {s : AS} {w : World}
theorem conv_own_res {ρ : Operand→AV} {ρ' : Operand→Value} {o : Oper} {src dst e : TypeId} {x : Operand} {l : List UInt8} (ho : o.op = .convert src dst x) (hu1 : P.underlying src = some .string) (hu2 : P.underlying dst = some (.slice e)) (he : P.underlying e = some (.int .u8))
    (hx : ρ x = .v (.string ⟨l.toArray⟩)) (hρ : ∀ x,VRel G (ρ x) (ρ' x)) (hs : SRel Γ G s w) :
    OpRes P Γ G (fun r s'=>OutS s l r s') ((execOp ρ' o).run P w):=by
  have hxr:=hρ x
  rw [hx] at hxr
  simp only [VRel] at hxr
  obtain ⟨cap,hle,hrun⟩:=run_stringToBytes (P:=P) e (⟨l.toArray⟩ : ByteArray) w
  have hsz : (⟨l.toArray⟩ : ByteArray).size = l.length:=rfl
  have hdl : (⟨l.toArray⟩ : ByteArray).data.toList = l:=rfl
  rw [hsz] at hle hrun
  rw [hdl] at hrun
  have hto : s.own G.nt = none:=hs.own_isNone (Nat.le_refl _)
  obtain ⟨G',h1,h2,h3,h4⟩:=hs.stringToBytes e l (cap - l.length) cap (by omega) G.nt 0 (fun e' _=>hs.freshT _ (Nat.le_refl _) e')
  have hr : (convert src dst (ρ' x)).run P w = .ok (.slice (some ⟨w.heap.size,0,none⟩) l.length cap) ((w.drew.alloc (.cells (bvals l ++ zvals (cap - l.length)).toArray e)).freeze ⟨w.heap.size,cap,none⟩ 1):=by
    rw [hxr,← hrun]
    simp [convert,run_underlying hu1,run_underlying hu2,run_underlying he]
  refine (show execOp ρ' o = (do pure (.value (← convert src dst (ρ' x)))) by
    obtain ⟨d,op,type,pos,after,guard⟩:=o
    simp only at ho
    subst ho
    rfl) ▸ opres_value ⟨G',_,_,.sl 1 l.length (l.map byteV) (.own G.nt 0),s.gain G.nt 0,hr,h1,h2,?_,AS.le_gain (AS.le.refl s) hto 0,.inr ⟨G.nt,0,hto,AS.gain_own_same _ _ _,rfl⟩⟩
  simp only [VRel]
  exact .inl ⟨w.heap.size,0,cap,bvals l,rfl,by simp,hle,VRels_bytes _,h3,by simpa [SpRel] using h4⟩
theorem awp_reg_mid1 {N : Nat} {E : Env} {Q : Exit→Env→AS→Prop} {id : Nat} {L2 : List Oper} {o1 o : Oper} {code : Code} (hg : o.guard = none) (hd : ∀ d,o.dst = some d→d < N)
    (h : ∀ ops,AY P Γ N ops [o1] (fun E1 s1=>∃ K1 : AV→AS→Prop,(∀ G a w,Rel Γ N G E1 s1 a w→OpRes P Γ G K1 ((execOp a.eval o).run P w)) ∧
      ∀ r s2,K1 r s2→AY P Γ N ops L2 (fun E' s'=>AWp P Γ N code Q E' s') (updO E1 o.dst r) s2) E s) :
    AWp P Γ N (.seq (.region id (o1 :: o :: L2).toArray false) code) Q E s :=
  awp_reg_mid [o1] L2 hg hd (h _)
end Go.AM
namespace Go.AM
open Go Go.RowKit
theorem AV.weak.trans {a b c : AV} (h : a.weak b) (k : b.weak c) : a.weak c:=fun G v hv=>k G v (h G v hv)
end Go.AM
namespace Go.AM
open Go Go.RowKit
variable {P : Program} {Γ : Nat→List AV} {N : Nat}
def GWp (P : Program) (Γ : Nat→List AV) (N : Nat) (c : Code) (Q : Exit→Env→AS→Prop) (E : Env) (s : AS) : Prop :=
  ∀ (G : Gh) (a : Act) (w : World),Rel Γ N G E s a w→c.wp P (fun e a' w'=>∃ G' E' s',G.le G'∧Rel Γ N G' E' s' a' w'∧Q e E' s') a w
section
variable {E : Env} {s : AS} {Q : Exit→Env→AS→Prop}
theorem AWp.g {c : Code} (h : AWp P Γ N c Q E s) : GWp P Γ N c Q E s:=fun G a w hr=>wp_mono (h G a w hr) fun e a' w' ⟨G',E',s',h1,h2,h3,_⟩=>⟨G',E',s',h1,h2,h3⟩
end
end Go.AM
namespace Go.AM
open Go Go.RowKit Go.ChangeShapes
variable {H : Type} {enc : TypeId × Value→H} {P : Program}
theorem size_of_trod {w : World} {base : Nat} {spare : Nat→Bool} {held : Bool} {fuel : Nat} {t e : TypeId} {d : DataW H} {p : List MemPlace} {v : Value} {ts : List TypeId} {ds : List (DataW H)} {j : Nat} (hu : P.underlying t = some (.slice e))
    (hz : (DataW.weightsEach P ts ds).all (·≤reachBytes) = true) (ht : ts[j]? = some t) (hd : ds[j]? = some d) (h : DataW.trod enc P w base spare held fuel t v.cells.toList = some (d,p)) (hb : 1≤P.bytesOf e) :
    ∀ a l c,v = .slice a l c→l≤reachBytes:=by
  rintro a l c rfl
  simp only [Value.cells] at h
  rcases DataW.trod_slice hu h with ⟨h1,_⟩ | ⟨a',len,cap,elems,rest,n,_,h1,h2,_,_,_,hlen,_⟩
  · simp only [List.cons.injEq,Value.slice.injEq,and_true] at h1
    omega
  · simp only [List.cons.injEq,Value.slice.injEq,and_true] at h1
    simp only [Prod.mk.injEq] at h2
    obtain ⟨rfl,_⟩:=h2
    have:=sized_slice hz ht hd hu
    simp only [List.length_map] at this
    have h3 : (elems.length + rest.length) * 1≤(elems.length + rest.length) * P.bytesOf e:=Nat.mul_le_mul_left _ hb
    omega
end Go.AM
namespace Go.AM
open Go Go.RowKit
variable {P : Program} {Γ : Nat→List AV} {G : Gh} {s : AS} {w : World}
theorem OpRes.frozen {sz n : Nat} {cs : List AV} {X : Result Next} (h : OpRes P Γ G (fun r s'=>∃ ob,s.objs ob = none∧r = .osl ob 0 sz n n∧s' = s.set ob cs) X) (hl : cs.length = n * sz) : OpRes P Γ G (fun r s'=>r = .sl sz n cs .no∧s' = s) X:=by
  have key : ∀ (G' : Gh) (s' : AS) (w' : World) (v : Value) (r : AV),G.le G'→SRel Γ G' s' w'→VRel G' r v→(∃ ob,s.objs ob = none∧r = .osl ob 0 sz n n∧s' = s.set ob cs)→∃ G'',G.le G''∧SRel Γ G'' s w'∧VRel G'' (.sl sz n cs .no) v:=by
    rintro G' s' w' v r h1 h2 h3 ⟨ob,ho,rfl,rfl⟩
    obtain ⟨b,vs,q1,q2,q3,q4,q5⟩:=h2.freeze (AS.set_objs_same _ _ _)
    rw [AS.drop_set ho] at q5
    refine ⟨_,h1.trans q3,q5,?_⟩
    simp only [VRel] at h3 ⊢
    obtain ⟨b',k1,k2,k3⟩:=h3
    rw [q1] at k1; cases k1
    exact .inl ⟨b,0,n,vs,k2,hl,Nat.le_refl _,VRels.mono q3 _ _ q2,q4,trivial⟩
  match X,h with
  | .ok (.value v) w',h =>
    obtain ⟨G',r,s',h1,h2,h3,h4⟩:=h
    obtain ⟨G'',k1,k2,k3⟩:=key G' s' w' v r h1 h2 h3 h4
    exact ⟨G'',_,_,k1,k2,k3,rfl,rfl⟩
  | .ok .skip w',h =>
    obtain ⟨G',s',h1,h2,ob,ho,h3,h4⟩:=h
    cases h3
  | .ok (.enter f args) w',h =>
    exact Calls.mono h fun e w'' ⟨G',r,v,s',he,h1,h2,h3,h4⟩=>by
      obtain ⟨G'',k1,k2,k3⟩:=key G' s' w'' v r h1 h2 h3 h4
      exact ⟨G'',_,v,_,he,k1,k2,k3,rfl,rfl⟩
end Go.AM
namespace Go.AM
open Go Go.RowKit Go.ChangeShapes
variable {H : Type} {enc : TypeId × Value→H} {P : Program}
theorem size_of_field {w : World} {base : Nat} {spare : Nat→Bool} {held : Bool} {fuel : Nat} {t e : TypeId} {d : DataW H} {p : List MemPlace} {cs : List Value} {ts : List TypeId} {ds : List (DataW H)} {j : Nat} {fs : Array Field} (hu : P.underlying t = some (.struct fs))
    (hz : (DataW.weightsEach P ts ds).all (·≤reachBytes) = true) (ht : ts[j]? = some t) (hd : ds[j]? = some d) (h : DataW.trod enc P w base spare held fuel t cs = some (d,p)) (i : Nat) {f : Field} (hf : fs[i]? = some f)
    (he : P.underlying f.type = some (.slice e)) (hb : 1≤P.bytesOf e) (hc : P.cellsOf f.type = 1) : ∀ a l c,cs[f.offset]? = some (.slice a l c)→l≤reachBytes:=by
  intro a l c hcs
  obtain ⟨xs,n,_,hx,hl,hxl,hall⟩:=DataW.trod_struct hu h
  simp only [Prod.mk.injEq] at hx
  obtain ⟨rfl,_⟩:=hx
  have h1:=hall i f hf
  have hi : i < fs.size:=(Array.getElem?_eq_some_iff.1 hf).1
  rw [hc,show (cs.drop f.offset).take 1 = [.slice a l c] from by
    obtain ⟨k1,k2⟩:=List.getElem?_eq_some_iff.1 hcs
    rw [List.drop_eq_getElem_cons k1,k2]; rfl,List.getElem?_eq_getElem (by omega)] at h1
  have hw : (DataW.weightsEach P (fs.toList.map (·.type)) (xs.map (·.1))).all (·≤reachBytes) = true:=by
    rw [List.all_eq_true]
    intro m hm
    exact List.all_eq_true.1 hz m (DataW.weights_mem_each ht hd m (by simp only [DataW.weights,hu]; exact hm))
  refine size_of_trod (v:=.slice a l c) (j:=i) (d:=(xs[i]'(by omega)).1) (p:=(xs[i]'(by omega)).2) he hw (by simp [List.getElem?_map,hf]) (by simp [List.getElem?_map,List.getElem?_eq_getElem (show i < xs.length by omega)]) (fuel:=n) (by simpa [Value.cells] using h1) hb a l c rfl
end Go.AM
namespace Go.AM
open Go Go.RowKit
theorem DF : type_of% (And.intro (And.intro (And.intro (And.intro (And.intro (And.intro @aval.eq_1 (And.intro @aval.eq_2 @aval.eq_3)) (And.intro @aval.eq_4 (And.intro @aval.eq_5 @aval.eq_6))) (And.intro
    (And.intro @aval.eq_7 (And.intro @aval.eq_8 @aval.eq_9)) (And.intro @aval.eq_10 (And.intro @aval.eq_11 @aval.eq_12)))) (And.intro (And.intro (And.intro @aval.eq_13 (And.intro
    @aval.eq_14 @aval.eq_15)) (And.intro @aval.eq_16 (And.intro @aval.eq_17 @aval.eq_18))) (And.intro (And.intro @aval.eq_19 (And.intro @abin.eq_1 @abin.eq_2)) (And.intro
    (And.intro @abin.eq_3 @abin.eq_4) (And.intro @abin.eq_5 @abin.eq_6))))) (And.intro (And.intro (And.intro (And.intro @abin.eq_7 (And.intro @abin.eq_8 @abin.eq_9)) (And.intro
    @abin.eq_10 (And.intro @abin.eq_11 @aint.eq_1))) (And.intro (And.intro @aint.eq_2 (And.intro @aint.eq_3 @aint.eq_4)) (And.intro (And.intro @aint.eq_5 @aint.eq_6) (And.intro
    @aint.eq_7 @aint.eq_8)))) (And.intro (And.intro (And.intro @aint.eq_9 (And.intro @aint.eq_10 @aint.eq_11)) (And.intro @aint.eq_12 (And.intro @aint.eq_13 @aint.eq_14)))
    (And.intro (And.intro @aint.eq_15 (And.intro @aint.eq_16 @abool.eq_1)) (And.intro (And.intro @abool.eq_2 @abool.eq_3) (And.intro @astr.eq_1 @astr.eq_2)))))) (And.intro
    (And.intro (And.intro (And.intro (And.intro @astr.eq_3 (And.intro @astr.eq_4 @anil.eq_1)) (And.intro @anil.eq_2 (And.intro @anil.eq_3 @aun.eq_1))) (And.intro (And.intro
    @aun.eq_2 (And.intro @aun.eq_3 @aun.eq_4)) (And.intro @aun.eq_5 (And.intro @aun.eq_6 @optInt.eq_1)))) (And.intro (And.intro (And.intro @optInt.eq_2 (And.intro @optInt.eq_3
    @asrc.eq_1)) (And.intro @asrc.eq_2 (And.intro @asrc.eq_3 @asrc.eq_4))) (And.intro (And.intro @asrc.eq_5 (And.intro @afill.eq_1 @afill.eq_2)) (And.intro (And.intro @placeOf.eq_1
    @asetAll.eq_1) (And.intro @asetAll.eq_2 @undef.eq_1))))) (And.intro (And.intro (And.intro (And.intro @aload.eq_1 (And.intro @apart.eq_1 @aeval.eq_1)) (And.intro @aeval.eq_2
    (And.intro @aeval.eq_3 @aeval.eq_4))) (And.intro (And.intro @updO.eq_1 (And.intro @updO.eq_2 @upd.eq_1)) (And.intro (And.intro @initE.eq_1 @gdst.eq_1) (And.intro @thenQ.eq_1
    @thenQ.eq_2)))) (And.intro (And.intro (And.intro @blockQ.eq_1 (And.intro @blockQ.eq_2 @srcOk.eq_1)) (And.intro @bytesV.eq_1 (And.intro @Array.isEmpty.eq_1.{0}
    @List.isEmpty.eq_1.{0}))) (And.intro (And.intro @List.isEmpty.eq_2.{0} (And.intro @implies_true.{0} @implies_true.{1})) (And.intro (And.intro @forall_eq'.{1} @ne_eq.{1})
    (And.intro @if_true.{1} @if_false.{1}))))))) :=
  (And.intro (And.intro (And.intro (And.intro (And.intro (And.intro @aval.eq_1 (And.intro @aval.eq_2 @aval.eq_3)) (And.intro @aval.eq_4 (And.intro @aval.eq_5 @aval.eq_6))) (And.intro
    (And.intro @aval.eq_7 (And.intro @aval.eq_8 @aval.eq_9)) (And.intro @aval.eq_10 (And.intro @aval.eq_11 @aval.eq_12)))) (And.intro (And.intro (And.intro @aval.eq_13 (And.intro
    @aval.eq_14 @aval.eq_15)) (And.intro @aval.eq_16 (And.intro @aval.eq_17 @aval.eq_18))) (And.intro (And.intro @aval.eq_19 (And.intro @abin.eq_1 @abin.eq_2)) (And.intro
    (And.intro @abin.eq_3 @abin.eq_4) (And.intro @abin.eq_5 @abin.eq_6))))) (And.intro (And.intro (And.intro (And.intro @abin.eq_7 (And.intro @abin.eq_8 @abin.eq_9)) (And.intro
    @abin.eq_10 (And.intro @abin.eq_11 @aint.eq_1))) (And.intro (And.intro @aint.eq_2 (And.intro @aint.eq_3 @aint.eq_4)) (And.intro (And.intro @aint.eq_5 @aint.eq_6) (And.intro
    @aint.eq_7 @aint.eq_8)))) (And.intro (And.intro (And.intro @aint.eq_9 (And.intro @aint.eq_10 @aint.eq_11)) (And.intro @aint.eq_12 (And.intro @aint.eq_13 @aint.eq_14)))
    (And.intro (And.intro @aint.eq_15 (And.intro @aint.eq_16 @abool.eq_1)) (And.intro (And.intro @abool.eq_2 @abool.eq_3) (And.intro @astr.eq_1 @astr.eq_2)))))) (And.intro
    (And.intro (And.intro (And.intro (And.intro @astr.eq_3 (And.intro @astr.eq_4 @anil.eq_1)) (And.intro @anil.eq_2 (And.intro @anil.eq_3 @aun.eq_1))) (And.intro (And.intro
    @aun.eq_2 (And.intro @aun.eq_3 @aun.eq_4)) (And.intro @aun.eq_5 (And.intro @aun.eq_6 @optInt.eq_1)))) (And.intro (And.intro (And.intro @optInt.eq_2 (And.intro @optInt.eq_3
    @asrc.eq_1)) (And.intro @asrc.eq_2 (And.intro @asrc.eq_3 @asrc.eq_4))) (And.intro (And.intro @asrc.eq_5 (And.intro @afill.eq_1 @afill.eq_2)) (And.intro (And.intro @placeOf.eq_1
    @asetAll.eq_1) (And.intro @asetAll.eq_2 @undef.eq_1))))) (And.intro (And.intro (And.intro (And.intro @aload.eq_1 (And.intro @apart.eq_1 @aeval.eq_1)) (And.intro @aeval.eq_2
    (And.intro @aeval.eq_3 @aeval.eq_4))) (And.intro (And.intro @updO.eq_1 (And.intro @updO.eq_2 @upd.eq_1)) (And.intro (And.intro @initE.eq_1 @gdst.eq_1) (And.intro @thenQ.eq_1
    @thenQ.eq_2)))) (And.intro (And.intro (And.intro @blockQ.eq_1 (And.intro @blockQ.eq_2 @srcOk.eq_1)) (And.intro @bytesV.eq_1 (And.intro @Array.isEmpty.eq_1.{0}
    @List.isEmpty.eq_1.{0}))) (And.intro (And.intro @List.isEmpty.eq_2.{0} (And.intro @implies_true.{0} @implies_true.{1})) (And.intro (And.intro @forall_eq'.{1} @ne_eq.{1})
    (And.intro @if_true.{1} @if_false.{1})))))))
theorem DB : type_of% (And.intro (And.intro (And.intro @Bool.not_true @Bool.not_false) (And.intro @Bool.false_eq_true @Bool.true_eq_false)) (And.intro (And.intro @false_imp_iff @true_imp_iff) (And.intro @decide_eq_true_eq @decide_eq_false_iff_not))) :=
  (And.intro (And.intro (And.intro @Bool.not_true @Bool.not_false) (And.intro @Bool.false_eq_true @Bool.true_eq_false)) (And.intro (And.intro @false_imp_iff @true_imp_iff) (And.intro @decide_eq_true_eq @decide_eq_false_iff_not)))
theorem DX : type_of% (And.intro (And.intro @List.contains_cons.{0} (And.intro @List.contains_nil.{0} @Bool.or_false)) (And.intro (And.intro @Bool.or_true @Bool.or_self) (And.intro @Bool.false_eq_true @Bool.false_or))) :=
  (And.intro (And.intro @List.contains_cons.{0} (And.intro @List.contains_nil.{0} @Bool.or_false)) (And.intro (And.intro @Bool.or_true @Bool.or_self) (And.intro @Bool.false_eq_true @Bool.false_or)))
theorem DT : type_of% (And.intro (And.intro @atuple_nil (And.intro @atuple_one @atuple_two)) (And.intro @atuple_three (And.intro @atuple_four @atuple_five))) :=
  (And.intro (And.intro @atuple_nil (And.intro @atuple_one @atuple_two)) (And.intro @atuple_three (And.intro @atuple_four @atuple_five)))
end Go.AM
namespace Go.AM
open Go Go.RowKit
variable {P : Program} {Γ : Nat→List AV} {G : Gh} {s : AS} {w : World} {N : Nat} {ops : Array Oper}
inductive Mk where
  | val
  | eff
  | giv (v : AV)
  | frz
def frzV (P : Program) (o : Oper) : Option AV :=
  match o.op with
  | .makeSlice T (.const (.int _ n)) _ =>
    match P.underlying T with
    | some (.slice e)=>match zcells P e with | some z=>some (.sl (P.cellsOf e) n.toNat (zrow (n.toNat * P.cellsOf e) z) .no) | none=>none
    | _=>none
  | _=>none
def freshB (P : Program) (N : Nat) (o : Oper) : Bool :=
  match o.guard,o.dst,o.op with
  | none,some d,.alloc T=>decide (d < N) && (zcells P T).isSome
  | none,some d,.makeSlice T (.const (.int _ n)) (.const (.int _ m)) =>
    decide (d < N) && (match P.underlying T with
      | some (.slice e)=>(match zcells P e with
        | some z=>decide (0≤n) && (decide (m = n) && (decide (P.bytesOf e * n≤70368744177664) && (decide (n≤70368744177664) && (decide (P.cellsOf e≠0) && decide (z.length = P.cellsOf e)))))
        | none=>false)
      | _=>false)
  | _,_,_=>false
def GivC (P : Program) (Γ : Nat→List AV) (o : Oper) (E : Env) (v : AV) : Prop :=
  o.guard = none ∧
  match o.op with
  | .call { callee:=.value f,args,.. } =>
    match aeval Γ E f with
    | .v (.func (.func k) first caps)=>first.isEmpty = true∧caps.isEmpty = true∧callable P k = true∧∀ s,ACalls P Γ k (args.toList.map (aeval Γ E)) s (fun r s'=>r = v∧s' = s)
    | _=>False
  | _=>False
def GV (P : Program) (Γ : Nat→List AV) (N : Nat) (ops : Array Oper) (m : Mk) (o : Oper) (E : Env) (v : AV) : Prop :=
  match m with
  | .giv u=>v = u∧GivC P Γ o E u
  | .val=>pval P Γ ops o E = some v
  | .frz=>freshB P N o = true∧frzV P o = some v
  | .eff=>False
def Mk.isEff : Mk→Bool
  | .eff=>true
  | _=>false
def AXg (P : Program) (Γ : Nat→List AV) (N : Nat) (ops : Array Oper) : List (Oper × Mk)→(Env→AS→Prop)→Env→AS→Prop
  | [],K,E,s=>K E s
  | (o,m) :: rest,K,E,s =>
    if m.isEff = true then AX P Γ N ops [o] (AXg P Γ N ops rest K) E s
    else (∀ d,o.dst = some d→d < N)∧∃ v,GV P Γ N ops m o E v∧AXg P Γ N ops rest K (updO E o.dst v) s
theorem givC_congr {o : Oper} {E E' : Env} {v : AV} (h : ∀ d,d ∈ o.looksAt ops→E' d = E d) (hv : GivC P Γ o E v) : GivC P Γ o E' v:=by
  have hop : ∀ x ∈ o.op.operands,aeval Γ E' x = aeval Γ E x:=fun x hx=>by
    cases x with
    | tmp t=>exact h t (List.mem_append_left _ (List.mem_filterMap.2 ⟨.tmp t,by simpa using hx,rfl⟩))
    | const v=>rfl
    | global g=>rfl
    | func f=>rfl
  obtain ⟨hg,hv⟩:=hv
  refine ⟨hg,?_⟩
  cases hc : o.op <;> rw [hc] at hv
  case call c =>
    obtain ⟨callee,args,argTypes⟩:=c
    rw [hc] at hop
    cases callee with
    | value f =>
      have hf : aeval Γ E' f = aeval Γ E f:=hop f (by simp [Op.operands,Call.operands])
      have ha : args.toList.map (aeval Γ E') = args.toList.map (aeval Γ E):=List.map_congr_left fun x hx=>hop x (by
        have : x ∈ args:=by simpa using hx
        simp [Op.operands,Call.operands,this])
      simp only [hf,ha]
      exact hv
    | invoke r m=>exact hv
    | builtin b=>exact hv
  all_goals exact hv
theorem gv_congr {m : Mk} {o : Oper} {E E' : Env} {v : AV} (h : ∀ d,d ∈ o.looksAt ops→E' d = E d) (hv : GV P Γ N ops m o E v) : GV P Γ N ops m o E' v:=by
  cases m with
  | giv u=>exact ⟨hv.1,givC_congr h hv.2⟩
  | frz=>exact hv
  | val=>exact (pval_congr h).trans hv
  | eff=>exact hv
theorem gv_unique {m : Mk} {o : Oper} {E : Env} {v v' : AV} (h : GV P Γ N ops m o E v) (h' : GV P Γ N ops m o E v') : v = v':=by
  cases m with
  | giv u=>exact h.1.trans h'.1.symm
  | frz=>exact Option.some.inj (h.2.symm.trans h'.2)
  | val=>exact Option.some.inj (Eq.trans (Eq.symm h) h')
  | eff=>exact h.elim
theorem givC_AX {o : Oper} {E : Env} {v : AV} {K : Env→AS→Prop} (hd : ∀ d,o.dst = some d→d < N) (hv : GivC P Γ o E v) (h : K (updO E o.dst v) s) : AX P Γ N ops [o] K E s:=by
  obtain ⟨hg,hv⟩:=hv
  simp only [AX,hg]
  refine ⟨hd,?_⟩
  cases hc : o.op <;> rw [hc] at hv
  case call c =>
    obtain ⟨callee,args,argTypes⟩:=c
    cases callee with
    | value f =>
      simp only [astep,aval,aeff]
      simp only at hv
      split at hv
      · rename_i k first caps hf
        simp only [hf]
        obtain ⟨h1,h2,h3,h4⟩:=hv
        refine ⟨h1,h2,h3,(h4 s).mono ?_⟩
        rintro r s' ⟨rfl,rfl⟩
        exact h
      · cases hv
    | invoke r m=>cases hv
    | builtin b=>cases hv
  all_goals cases hv
theorem AXg_AX {o : Oper} {m : Mk} (hmf : m≠.frz) {L : List (Oper × Mk)} {E : Env} {K : Env→AS→Prop} (h : AXg P Γ N ops ((o,m) :: L) K E s) : AX P Γ N ops [o] (AXg P Γ N ops L K) E s:=by
  simp only [AXg] at h
  split at h
  · exact h
  · obtain ⟨hd,v,hv,h⟩:=h
    cases m with
    | giv u =>
      obtain ⟨rfl,hv⟩:=hv
      exact givC_AX hd hv h
    | eff=>exact hv.elim
    | frz=>exact absurd rfl hmf
    | val =>
      have hv : pval P Γ ops o E = some v:=hv
      have : AXp P Γ N ops [(o,false)] (AXg P Γ N ops L K) E s:=by
        simp only [AXp,Bool.false_eq_true,if_false,hv]
        exact ⟨hd,h⟩
      have:=AXp_AX this
      simpa only [AXp] using this
def FreshAt (P : Program) (Γ : Nat→List AV) (N : Nat) (ops : Array Oper) (o : Oper) : Prop :=
  ∃ (v : Nat→AV) (z : List AV),∀ (E : Env) (s : AS) (K : Env→AS→Prop),AX P Γ N ops [o] K E s↔∀ ob,s.objs ob = none→K (updO E o.dst (v ob)) (s.set ob z)
theorem fresh_swap {f o : Oper} (hf : FreshAt P Γ N ops f) (ho : FreshAt P Γ N ops o) (hd : ∀ d,f.dst = some d→o.dst≠some d) {E : Env} {K : Env→AS→Prop}
    (h : AX P Γ N ops [f] (fun E s=>AX P Γ N ops [o] K E s) E s) : AX P Γ N ops [o] (fun E s=>AX P Γ N ops [f] K E s) E s:=by
  obtain ⟨vf,zf,hf⟩:=hf
  obtain ⟨vo,zo,ho⟩:=ho
  rw [ho]
  intro o2 h2
  rw [hf]
  intro o1 h1
  rw [hf] at h
  have hne : o1≠o2:=by rintro rfl; rw [AS.set_objs_same] at h1; cases h1
  rw [AS.set_objs_ne _ hne] at h1
  have:=(ho _ _ _).1 (h o1 h1) o2 (by rw [AS.set_objs_ne _ hne.symm]; exact h2)
  have e1 : ((s.set o1 zf).set o2 zo) = ((s.set o2 zo).set o1 zf):=by
    simp only [AS.set,AS.mk.injEq,and_true]
    funext i
    simp only [upd]
    by_cases a : i = o1
    · subst a; simp [hne]
    · by_cases b : i = o2
      · subst b; simp [hne.symm]
      · simp [a,b]
  rw [e1,updO_comm hd] at this
  exact this
theorem FreshAt.alloc {T : TypeId} {z : List AV} {d : Tmp} {ty : TypeId} {pos : String} {after : Array Edge} (hz : zcells P T = some z) (hd : d < N) : FreshAt P Γ N ops { dst:=some d,op:=.alloc T,type:=ty,pos:=pos,after:=after,guard:=none }:=by
  refine ⟨fun o=>.ptr o 0,z,fun E s K=>?_⟩
  simp only [AX,astep,aval,aeff,hz]
  refine ⟨fun h=>h.2,fun h=>⟨fun d' hd'=>?_,h⟩⟩
  cases hd'; exact hd
theorem FreshAt.make {T e : TypeId} {k k' : IntKind} {n m : Int} {z : List AV} {d : Tmp} {ty : TypeId} {pos : String} {after : Array Edge} (hT : P.underlying T = some (.slice e)) (hz : zcells P e = some z)
    (h : 0≤n∧m = n∧P.bytesOf e * n≤2 ^ 46∧n≤2 ^ 46∧P.cellsOf e≠0∧z.length = P.cellsOf e) (hd : d < N) : FreshAt P Γ N ops { dst:=some d,op:=.makeSlice T (.const (.int k n)) (.const (.int k' m)),type:=ty,pos:=pos,after:=after,guard:=none }:=by
  refine ⟨fun o=>.osl o 0 (P.cellsOf e) n.toNat n.toNat,zrow (n.toNat * P.cellsOf e) z,fun E s K=>?_⟩
  simp only [AX,astep,aval,aeff,aeval,hT,hz]
  obtain ⟨h1,h2,h3,h4,h5,h6⟩:=h
  refine ⟨fun h=>h.2.2.2.2.2.2.2,fun h=>⟨fun d' hd'=>?_,h1,h2,h3,h4,h5,h6,h⟩⟩
  cases hd'; exact hd
theorem freshB_spec {o : Oper} (h : freshB P N o = true) : FreshAt P Γ N ops o:=by
  obtain ⟨dst,op,ty,pos,after,guard⟩:=o
  unfold freshB at h
  split at h
  · rename_i d T h1 h2 h3
    simp only at h1 h2 h3
    subst h1 h2 h3
    simp only [Bool.and_eq_true,decide_eq_true_eq] at h
    obtain ⟨hd,hz⟩:=h
    obtain ⟨z,hz⟩:=Option.isSome_iff_exists.1 hz
    exact FreshAt.alloc hz hd
  · rename_i d T k n k' m h1 h2 h3
    simp only at h1 h2 h3
    subst h1 h2 h3
    simp only [Bool.and_eq_true] at h
    obtain ⟨hd,h⟩:=h
    split at h
    · rename_i e hT
      split at h
      · rename_i z hz
        simp only [Bool.and_eq_true,decide_eq_true_eq] at h
        obtain ⟨q1,q2,q3,q4,q5,q6⟩:=h
        exact FreshAt.make hT hz ⟨q1,q2,by simpa using q3,by simpa using q4,q5,q6⟩ (of_decide_eq_true hd)
      · cases h
    · cases h
  · cases h
theorem frz_ghost {o : Oper} {v : AV} (hb : freshB P N o = true) (hv : frzV P o = some v) : ∃ (d : Tmp) (sz n : Nat) (z : List AV),o.dst = some d ∧
    (∀ (E : Env) (s : AS) (K : Env→AS→Prop),AX P Γ N ops [o] K E s↔∀ ob,s.objs ob = none→K (updO E o.dst (.osl ob 0 sz n n)) (s.set ob z))∧v = .sl sz n z .no∧z.length = n * sz:=by
  obtain ⟨dst,op,ty,pos,after,guard⟩:=o
  unfold freshB at hb
  split at hb
  · rename_i d T h1 h2 h3
    simp only at h1 h2 h3
    subst h1 h2 h3
    simp [frzV] at hv
  · rename_i d T k n k' m h1 h2 h3
    simp only at h1 h2 h3
    subst h1 h2 h3
    simp only [Bool.and_eq_true] at hb
    obtain ⟨hd,hb⟩:=hb
    split at hb
    · rename_i e hT
      split at hb
      · rename_i z hz
        simp only [Bool.and_eq_true,decide_eq_true_eq] at hb
        obtain ⟨q1,q2,q3,q4,q5,q6⟩:=hb
        simp only [frzV,hT,hz,Option.some.injEq] at hv
        refine ⟨d,P.cellsOf e,n.toNat,zrow (n.toNat * P.cellsOf e) z,rfl,fun E s K=>?_,hv.symm,?_⟩
        · simp only [AX,astep,aval,aeff,aeval,hT,hz]
          refine ⟨fun h=>h.2.2.2.2.2.2.2,fun h=>⟨fun d' hd'=>?_,q1,q2,by simpa using q3,by simpa using q4,q5,q6,h⟩⟩
          cases hd'; exact of_decide_eq_true hd
        · simp [zrow]
      · cases hb
    · cases hb
  · cases hb
theorem frz_rel {o : Oper} {d : Tmp} {sz n : Nat} {z : List AV} {E : Env} {G' : Gh} {a' : Act} {w' : World} {ob : Nat} (hd : o.dst = some d) (hz : z.length = n * sz) (ho : s.objs ob = none)
    (hr : Rel Γ N G' (updO E o.dst (.osl ob 0 sz n n)) (s.set ob z) a' w') : ∃ G2,G'.le G2∧Rel Γ N G2 (updO E o.dst (.sl sz n z .no)) s a' w':=by
  rw [hd] at hr ⊢
  have hg:=Ghost.freeze (Γ:=Γ) (N:=N) (E:=updO E (some d) (.osl ob 0 sz n n)) (s:=s.set ob z) (d:=d) (o:=ob) (off:=0) (sz:=sz) (n:=n) (cap:=n) (by simp [updO,upd]) (AS.set_objs_same _ _ _) (by omega)
  rw [AS.drop_set ho,List.drop_zero,List.take_of_length_le (by omega)] at hg
  obtain ⟨G2,k1,k2⟩:=hg _ _ _ hr
  refine ⟨G2,k1,?_⟩
  have : upd (updO E (some d) (.osl ob 0 sz n n)) d (.sl sz n z .no) = updO E (some d) (.sl sz n z .no):=by
    funext i
    simp only [updO,upd]
    split <;> rfl
  rwa [this] at k2
theorem AXg_some {o : Oper} {m : Mk} {L : List (Oper × Mk)} {E : Env} {a : Act} {K : Env→AS→Prop} (h : AXg P Γ N ops ((o,m) :: L) K E s) (hr : Rel Γ N G E s a w) :
    ∃ G' E' s' a' w',Rel Γ N G' E' s' a' w'∧AXg P Γ N ops L K E' s'∧∀ i,o.dst≠some i→E' i = E i:=by
  by_cases hm : m = .frz
  · subst hm
    simp only [AXg,Mk.isEff,Bool.false_eq_true,if_false] at h
    obtain ⟨_,v,⟨hb,hv⟩,h⟩:=h
    obtain ⟨d,sz,n,z,hd,hax,rfl,hz⟩:=frz_ghost (Γ:=Γ) (ops:=ops) hb hv
    have:=(hax E s (fun E' s'=>∃ ob,s.objs ob = none∧E' = updO E o.dst (.osl ob 0 sz n n)∧s' = s.set ob z)).2 fun ob ho=>⟨ob,ho,rfl,rfl⟩
    obtain ⟨G',E',s',a',w',hr',⟨ob,ho,rfl,rfl⟩,_⟩:=AX_one_some this hr
    obtain ⟨G2,_,hr2⟩:=frz_rel hd hz ho hr'
    exact ⟨G2,_,_,a',w',hr2,h,fun i hi=>updO_other hi⟩
  · exact AX_one_some (AXg_AX hm h) hr
theorem gv_later {y : Oper} {m : Mk} (hm : m.isEff = false) {L2 : List (Oper × Mk)} {K : Env→AS→Prop} : ∀ (L1 : List (Oper × Mk)) {G : Gh} {E : Env} {s : AS} {a : Act} {w : World},(∀ x ∈ L1,Apart ops x.1 y)→AXg P Γ N ops (L1 ++ (y,m) :: L2) K E s→Rel Γ N G E s a w →
    (∀ d,y.dst = some d→d < N)∧∃ v,GV P Γ N ops m y E v
  | [],G,E,s,a,w,_,h,hr=>by
    simp only [List.nil_append,AXg,hm,Bool.false_eq_true,if_false] at h
    obtain ⟨h1,v,h2,_⟩:=h
    exact ⟨h1,v,h2⟩
  | (x,ex) :: L1,G,E,s,a,w,hap,h,hr=>by
    obtain ⟨G',E',s',a',w',hr',hK,hf⟩:=AXg_some h hr
    obtain ⟨h1,v,h2⟩:=gv_later hm L1 (fun x hx=>hap x (List.mem_cons_of_mem _ hx)) hK hr'
    refine ⟨h1,v,gv_congr (fun d hd=>(hf d fun e=>?_).symm) h2⟩
    exact (Oper.apart_spec (hap (x,ex) (by simp))).1 d e hd
theorem AXg_first_val {y : Oper} {m : Mk} (hm : m.isEff = false) {L2 : List (Oper × Mk)} {K : Env→AS→Prop} {v : AV} : ∀ (L1 : List (Oper × Mk)) {E : Env} {s : AS},(∀ x ∈ L1,Apart ops x.1 y)→GV P Γ N ops m y E v→AXg P Γ N ops (L1 ++ (y,m) :: L2) K E s →
    AXg P Γ N ops (L1 ++ L2) K (updO E y.dst v) s
  | [],E,s,_,hv,h=>by
    simp only [List.nil_append,AXg,hm,Bool.false_eq_true,if_false] at h
    obtain ⟨_,u,hu,h⟩:=h
    rw [gv_unique hv hu]
    exact h
  | (x,ex) :: L1,E,s,hap,hv,h=>by
    obtain ⟨a1,a2,a3⟩:=Oper.apart_spec (hap (x,ex) (by simp))
    have hap' : ∀ x ∈ L1,Apart ops x.1 y:=fun x hx=>hap x (List.mem_cons_of_mem _ hx)
    have hv' : ∀ E' : Env,(∀ i,x.dst≠some i→E' i = E i)→GV P Γ N ops m y E' v:=fun E' hE=>gv_congr (fun d hd=>hE d fun e=>a1 d e hd) hv
    simp only [List.cons_append,AXg] at h ⊢
    split at h
    · rename_i he
      rw [if_pos he]
      refine (AX_put (fun d hd=>a3 d hd) (fun d hd e=>a2 d e hd)).2 ?_
      refine AX_mono _ (fun E' s' hE=>?_) (AX_one_frame h)
      exact AXg_first_val hm L1 hap' (hv' E' hE.2) hE.1
    · rename_i he
      rw [if_neg he]
      obtain ⟨h0,u,hu,h⟩:=h
      refine ⟨h0,u,gv_congr (fun d hd=>updO_other fun e=>a3 d e hd) hu,?_⟩
      rw [updO_comm (fun d h1 h2=>a2 d h2 h1)]
      exact AXg_first_val hm L1 hap' (hv' _ fun i hi=>updO_other hi) h
theorem AXg_first_eff {y : Oper} {L2 : List (Oper × Mk)} {K : Env→AS→Prop} : ∀ (L1 : List (Oper × Mk)) {E : Env} {s : AS},(∀ x ∈ L1,Apart ops x.1 y∧(x.2.isEff = false∨(FreshAt P Γ N ops x.1∧FreshAt P Γ N ops y)))→AXg P Γ N ops (L1 ++ (y,.eff) :: L2) K E s →
    AX P Γ N ops [y] (AXg P Γ N ops (L1 ++ L2) K) E s
  | [],E,s,_,h=>by simpa only [List.nil_append,AXg,Mk.isEff,if_true] using h
  | (x,ex) :: L1,E,s,hap,h=>by
    obtain ⟨hap0,hex⟩:=hap (x,ex) (by simp)
    simp only at hex
    obtain ⟨a1,a2,a3⟩:=Oper.apart_spec hap0
    have hap' : ∀ x ∈ L1,Apart ops x.1 y∧(x.2.isEff = false∨(FreshAt P Γ N ops x.1∧FreshAt P Γ N ops y)):=fun x hx=>hap x (List.mem_cons_of_mem _ hx)
    cases hx : ex.isEff with
    | true =>
      rw [hx] at hex
      rcases hex with hex | ⟨f1,f2⟩
      · cases hex
      simp only [List.cons_append,AXg,hx,if_true] at h ⊢
      exact fresh_swap f1 f2 (fun d hd e=>a2 d hd e) (AX_mono _ (fun E' s' hE=>AXg_first_eff L1 hap' hE) h)
    | false =>
      simp only [List.cons_append,AXg,hx,Bool.false_eq_true,if_false] at h
      obtain ⟨h0,v,hv,h⟩:=h
      have h1:=AXg_first_eff L1 hap' h
      have h2:=(AX_put (fun d hd=>a1 d hd) (fun d hd=>a2 d hd)).1 h1
      refine AX_mono _ (fun E' s' hE=>?_) (AX_one_frame h2)
      simp only [List.cons_append,AXg,hx,Bool.false_eq_true,if_false]
      exact ⟨h0,v,gv_congr (fun d hd=>hE.2 d fun e=>a3 d e hd) hv,hE.1⟩
theorem AXg_frame : ∀ (L : List (Oper × Mk)) {K : Env→AS→Prop} {E : Env} {s : AS},AXg P Γ N ops L K E s→AXg P Γ N ops L (fun E' s'=>K E' s'∧∀ i,i ∉ dsts (L.map (·.1))→E' i = E i) E s
  | [],K,E,s,h=>⟨h,fun _ _=>rfl⟩
  | (o,mm) :: L,K,E,s,h=>by
    have mono : ∀ (L : List (Oper × Mk)) {K K' : Env→AS→Prop} {E : Env} {s : AS},(∀ E s,K E s→K' E s)→AXg P Γ N ops L K E s→AXg P Γ N ops L K' E s:=by
      intro L
      induction L with
      | nil=>intro K K' E s hk h; exact hk _ _ h
      | cons x L ih =>
        intro K K' E s hk h
        simp only [AXg] at h ⊢
        split at h
        · rename_i he; rw [if_pos he]; exact AX_mono _ (fun E s h=>ih hk h) h
        · rename_i he
          rw [if_neg he]
          obtain ⟨h0,v,hv,h⟩:=h
          exact ⟨h0,v,hv,ih hk h⟩
    have hmem : ∀ i,i ∉ dsts (((o,mm) :: L).map (·.1))→i ∉ dsts (L.map (·.1))∧o.dst≠some i:=by
      intro i hi
      simp only [dsts,List.map_cons,List.filterMap_cons] at hi
      refine ⟨fun hm=>hi ?_,fun e=>hi (by simp [e])⟩
      simp only [dsts] at hm
      split
      · exact hm
      · exact List.mem_cons_of_mem _ hm
    simp only [AXg] at h ⊢
    split at h
    · rename_i he
      rw [if_pos he]
      refine AX_mono _ (fun E' s' hE=>?_) (AX_one_frame h)
      refine mono L (fun E'' s'' hE'=>⟨hE'.1,fun i hi=>?_⟩) (AXg_frame L hE.1)
      obtain ⟨m1,m2⟩:=hmem i hi
      rw [hE'.2 i m1,hE.2 i m2]
    · rename_i he
      rw [if_neg he]
      obtain ⟨h0,v,hv,h⟩:=h
      refine ⟨h0,v,hv,mono L (fun E'' s'' hE'=>⟨hE'.1,fun i hi=>?_⟩) (AXg_frame L h)⟩
      obtain ⟨m1,m2⟩:=hmem i hi
      rw [hE'.2 i m1,updO_other m2]
def opAtG (ops : Array Oper) (mk : Nat→Mk) (i : Nat) : Oper × Mk:=((ops[i]?).getD default,mk i)
def pairsOkG (ops : Array Oper) (D : List Nat) (mk : Nat→Mk) (fr : List Nat) : Bool :=
  (List.range ops.size).all fun j=>(List.range j).all fun i =>
    match ops[i]?,ops[j]? with
    | some x,some y=>(D.getD j 0).testBit i || (x.apart ops y && !((mk i).isEff && (mk j).isEff && !(fr.contains i && fr.contains j)))
    | _,_=>true
def drawOkG (ops : Array Oper) (mk : Nat→Mk) (fr : List Nat) : Bool :=
  depEq ops (Region.before ops).toList && pairsOkG ops (Region.before ops).toList mk fr
theorem wpAny_of_AXg {mk : Nat→Mk} {fr : List Nat} (hfr : ∀ i ∈ fr,FreshAt P Γ N ops ((ops[i]?).getD default)) {Q : Exit→Act→World→Prop} {K : Env→AS→Prop} (hok : drawOkG ops mk fr = true) :
    ∀ (fuel : Nat) (listed : Array Bool) {G : Gh} {E : Env} {s : AS} {a : Act} {w : World},listed.size = ops.size→(left ops listed).length≤fuel →
      (∀ (i : Nat) (o : Oper),ops[i]? = some o→listed.getD i true = true→∀ e ∈ o.after.toList,Region.binds .any e = true→listed.getD e.on false = true) →
      AXg P Γ N ops ((left ops listed).map (opAtG ops mk)) K E s→Rel Γ N G E s a w →
      (∀ G' E' s' a' w',G.le G'→Rel Γ N G' E' s' a' w'→K E' s'→Q .normal a' w')→wpAny P .any ops Q fuel listed a w:=by
  simp only [drawOkG,Bool.and_eq_true] at hok
  obtain ⟨hdep,hpairs⟩:=hok
  intro fuel
  have hnil : ∀ (listed : Array Bool),Region.ready .any ops listed = []→left ops listed = []:=by
    intro listed h
    -- the first that is left could go
    cases hl : left ops listed with
    | nil=>rfl
    | cons i L =>
      exfalso
      have hi : i ∈ left ops listed:=by rw [hl]; simp
      obtain ⟨h1,h2⟩:=mem_left.1 hi
      have hmin : ∀ j,j < i→listed.getD j true = true:=by
        intro j hj
        cases hjl : listed.getD j true with
        | true=>rfl
        | false =>
          exfalso
          have hjm : j ∈ left ops listed:=mem_left.2 ⟨by omega,hjl⟩
          have hs : (left ops listed).Pairwise (· < ·):=by
            unfold left
            exact List.Pairwise.filter _ List.pairwise_lt_range
          rw [hl] at hs hjm
          rcases List.mem_cons.1 hjm with rfl | hjm
          · omega
          · have:=(List.pairwise_cons.1 hs).1 j hjm
            omega
      have ho : ops[i]? = some ops[i]:=by simp [h1]
      have hr : i ∈ Region.ready .any ops listed:=by
        rw [mem_ready]
        refine ⟨h2,_,ho,fun e he hb=>?_⟩
        have hlt:=(depEq_spec hdep ho).2 e (by simpa using he) hb
        have:=hmin _ hlt
        -- both defaults agree where the place is there
        have hsz : e.on < listed.size:=by
          rcases Nat.lt_or_ge e.on listed.size with h' | h'
          · exact h'
          · exfalso
            have : listed.getD i true = true:=by
              simp [Array.getElem?_eq_none (show listed.size≤i by omega)]
            rw [h2] at this; cases this
        simpa [hsz] using this
      rw [h] at hr
      cases hr
  induction fuel with
  | zero =>
    intro listed G E s a w hsz hlen hcl h hr hq
    have hl : left ops listed = []:=List.eq_nil_of_length_eq_zero (by omega)
    have hready : Region.ready .any ops listed = []:=by
      cases hrd : Region.ready .any ops listed with
      | nil=>rfl
      | cons i L =>
        exfalso
        have : i ∈ Region.ready .any ops listed:=by rw [hrd]; simp
        rw [mem_ready] at this
        obtain ⟨h0,o,ho,_⟩:=this
        have : i ∈ left ops listed:=mem_left.2 ⟨(Array.getElem?_eq_some_iff.1 ho).1,h0⟩
        rw [hl] at this
        cases this
    rw [hl] at h
    exact ⟨hready,hq G E s a w (.refl G) hr h⟩
  | succ fuel ih =>
    intro listed G E s a w hsz hlen hcl h hr hq
    refine ⟨fun hready=>?_,fun i hi=>?_⟩
    · rw [hnil listed hready] at h
      exact hq G E s a w (.refl G) hr h
    · obtain ⟨h0,o,ho,hall⟩:=mem_ready.1 hi
      have hilt : i < ops.size:=(Array.getElem?_eq_some_iff.1 ho).1
      obtain ⟨L1,L2,q1,q2,q3⟩:=left_set hsz hilt h0
      -- what comes before i is done
      have hbefore : ∀ (j : Nat) (oj : Oper),ops[j]? = some oj→(∀ e ∈ oj.after.toList,Region.binds .any e = true→listed.getD e.on false = true)→∀ l,((Region.before ops).toList.getD j 0).testBit l = true→listed.getD l false = true:=by
        intro j
        induction j using Nat.strongRecOn with
        | _ j ihj =>
          intro oj hoj hj l hl
          obtain ⟨d1,d2⟩:=depEq_spec hdep hoj
          obtain ⟨e,he,hb,h1⟩:=d1 l hl
          have hel:=hj e he hb
          rcases h1 with rfl | h1
          · exact hel
          · have hlt:=d2 e he hb
            have hon : e.on < ops.size:=by
              have:=(Array.getElem?_eq_some_iff.1 hoj).1
              omega
            have heon : ops[e.on]? = some ops[e.on]:=by simp [hon]
            refine ihj e.on hlt _ heon (hcl e.on _ heon ?_) l h1
            have : e.on < listed.size:=by omega
            simpa [this] using hel
      have hpair : ∀ x ∈ L1,Apart ops ((ops[x]?).getD default) o∧((mk x).isEff = false∨(mk i).isEff = false∨(fr.contains x = true∧fr.contains i = true)):=by
        intro x hx
        obtain ⟨hxi,hxl⟩:=q3 x hx
        unfold pairsOkG at hpairs
        rw [List.all_eq_true] at hpairs
        have h1:=hpairs i (by simpa using hilt)
        rw [List.all_eq_true] at h1
        have h2:=h1 x (by simpa using hxi)
        have hox : ops[x]? = some (ops[x]'(by omega)):=by simp
        rw [hox,ho] at h2
        simp only [Bool.or_eq_true,Bool.and_eq_true,Bool.not_eq_true'] at h2
        rcases h2 with h2 | ⟨h2,h3⟩
        · exfalso
          have:=hbefore i o ho (fun e he hb=>hall e (by simpa using he) hb) x h2
          have hxs : x < listed.size:=by omega
          simp [hxs] at this hxl
          rw [hxl] at this; cases this
        · refine ⟨by rw [hox]; exact h2,?_⟩
          cases e1 : (mk x).isEff with
          | false=>exact Or.inl rfl
          | true =>
            cases e2 : (mk i).isEff with
            | false=>exact Or.inr (Or.inl rfl)
            | true =>
              rw [e1,e2] at h3
              simp only [Bool.true_and,Bool.not_eq_eq_eq_not,Bool.not_false,Bool.and_eq_true,Bool.not_eq_true'] at h3
              exact Or.inr (Or.inr (by simpa using h3))
      have hset : ∀ {G' : Gh} {E' : Env} {s' : AS} {a' : Act} {w' : World},G.le G'→AXg P Γ N ops ((L1 ++ L2).map (opAtG ops mk)) K E' s'→Rel Γ N G' E' s' a' w'→wpAny P .any ops Q fuel (listed.setIfInBounds i true) a' w':=by
        intro G' E' s' a' w' hle hA hr'
        refine ih (listed.setIfInBounds i true) (by simpa using hsz) ?_ ?_ ?_ hr' (fun G'' E'' s'' a'' w'' k1 k2 k3=>hq G'' E'' s'' a'' w'' (hle.trans k1) k2 k3)
        · rw [q2]
          rw [q1] at hlen
          simp at hlen ⊢
          omega
        · intro j oj hoj hj e he hb
          by_cases hji : j = i
          · subst hji
            rw [ho] at hoj; cases hoj
            exact getD_set_true (hall e (by simpa using he) hb)
          · rw [getD_set_ne true (Ne.symm hji)] at hj
            exact getD_set_true (hcl j oj hoj hj e he hb)
        · rw [q2]; exact hA
      rw [q1] at h
      simp only [List.map_append,List.map_cons] at h hset
      have hop : opAtG ops mk i = (o,mk i):=by simp [opAtG,ho]
      rw [hop] at h
      cases hf : (mk i).isEff with
      | false =>
        have hap : ∀ x ∈ L1.map (opAtG ops mk),Apart ops x.1 o:=by
          intro x hx
          obtain ⟨j,hj,rfl⟩:=List.mem_map.1 hx
          exact (hpair j hj).1
        obtain ⟨hd,v,hv⟩:=gv_later hf _ hap h hr
        have h1:=AXg_first_val hf _ hap hv h
        have hX : AXg P Γ N ops ((o,mk i) :: (L1.map (opAtG ops mk) ++ L2.map (opAtG ops mk))) K E s:=by
          simp only [AXg,hf,Bool.false_eq_true,if_false]
          exact ⟨hd,v,hv,h1⟩
        by_cases hmf : mk i = .frz
        · rw [hmf] at hv
          obtain ⟨hb,hv⟩:=hv
          obtain ⟨d,sz,n,z,hdd,hax,rfl,hz⟩:=frz_ghost (Γ:=Γ) (ops:=ops) hb hv
          have h2:=(hax E s (fun E' s'=>∃ ob,s.objs ob = none∧E' = updO E o.dst (.osl ob 0 sz n n)∧s' = s.set ob z)).2 fun ob hob=>⟨ob,hob,rfl,rfl⟩
          refine AX_step (L:=[]) (K:=fun E' s'=>∃ ob,s.objs ob = none∧E' = updO E o.dst (.osl ob 0 sz n n)∧s' = s.set ob z) ho h2 hr (fun G' E' s' a' w' k1 k2 k3=>?_)
          obtain ⟨ob,hob,rfl,rfl⟩ : ∃ ob,s.objs ob = none∧E' = updO E o.dst (.osl ob 0 sz n n)∧s' = s.set ob z:=k3
          obtain ⟨G2,k4,k5⟩:=frz_rel hdd hz hob k2
          exact hset (k1.trans k4) h1 k5
        have h2:=AXg_AX hmf hX
        exact AX_step (L:=[]) (K:=fun E s=>AXg P Γ N ops (L1.map (opAtG ops mk) ++ L2.map (opAtG ops mk)) K E s) ho h2 hr (fun G' E' s' a' w' k1 k2 k3=>hset k1 k3 k2)
      | true =>
        have hme : mk i = .eff:=by
          cases hm : mk i with
          | eff=>rfl
          | val=>rw [hm] at hf; cases hf
          | frz=>rw [hm] at hf; cases hf
          | giv u=>rw [hm] at hf; cases hf
        rw [hme] at h
        have hap : ∀ x ∈ L1.map (opAtG ops mk),Apart ops x.1 o∧(x.2.isEff = false∨(FreshAt P Γ N ops x.1∧FreshAt P Γ N ops o)):=by
          intro x hx
          obtain ⟨j,hj,rfl⟩:=List.mem_map.1 hx
          refine ⟨(hpair j hj).1,?_⟩
          rcases (hpair j hj).2 with k | k | ⟨k1,k2⟩
          · exact Or.inl k
          · rw [hf] at k; cases k
          · refine Or.inr ⟨hfr j (by simpa using k1),?_⟩
            have:=hfr i (by simpa using k2)
            rwa [ho] at this
        have h2:=AXg_first_eff _ hap h
        exact AX_step (L:=[]) (K:=fun E s=>AXg P Γ N ops (L1.map (opAtG ops mk) ++ L2.map (opAtG ops mk)) K E s) ho h2 hr (fun G' E' s' a' w' k1 k2 k3=>hset k1 k3 k2)
def markedG (ops : Array Oper) (mk : Nat→Mk) : List (Oper × Mk):=(List.range ops.size).map (opAtG ops mk)
theorem awp_region_drawG {E : Env} {Q : Exit→Env→AS→Prop} (hm : P.follows .mixedOrders = true) (mk : Nat→Mk) (fr : List Nat) {id : Nat} (hok : drawOkG ops mk fr = true) (hfr : ∀ i ∈ fr,FreshAt P Γ N ops ((ops[i]?).getD default)) (h : AXg P Γ N ops (markedG ops mk) (fun E' s'=>Q .normal E' s') E s) :
    AWp P Γ N (.region id ops true) Q E s:=by
  intro G a w hr
  refine wp_region_any hm ?_
  have hleft : left ops (Array.replicate ops.size false) = List.range ops.size:=by
    unfold left
    rw [List.filter_eq_self]
    intro i hi
    have : i < ops.size:=by simpa using hi
    simp [this]
  have hr' : Rel Γ N G E s a w.drew:=⟨hr.st.drew,hr.size,hr.tmps,hr.defers⟩
  refine wpAny_of_AXg hfr hok ops.size (Array.replicate ops.size false) (by simp) (by rw [hleft]; simp) ?_ (by rw [hleft]; exact AXg_frame _ h) hr' ?_
  · intro i o ho hl
    have : i < ops.size:=(Array.getElem?_eq_some_iff.1 ho).1
    simp [this] at hl
  · intro G' E' s' a' w' h1 h2 h3
    refine ⟨G',E',s',h1,h2,h3.1,fun i hi=>h3.2 i fun hm=>hi ?_⟩
    have : (markedG ops mk).map (·.1) = ops.toList:=by
      apply List.ext_getElem?
      intro j
      simp only [markedG,List.getElem?_map]
      by_cases hj : j < ops.size
      · simp [hj,opAtG]
      · simp [hj]
    have hm' : i ∈ dsts ((markedG ops mk).map (·.1)):=hm
    rw [this] at hm'
    exact hm'
def glook : List (Nat × AV)→Nat→Option AV
  | [],_=>none
  | (i,v) :: L,k=>if k = i then some v else glook L k
theorem glook_nil {k : Nat} : glook [] k = none:=rfl
theorem glook_cons {i k : Nat} {v : AV} {L : List (Nat × AV)} : glook ((i,v) :: L) k = if k = i then some v else glook L k:=rfl
def glookN : List (Nat × Nat)→Nat→Option Nat
  | [],_=>none
  | (i,v) :: L,k=>if k = i then some v else glookN L k
theorem glookN_nil {k : Nat} : glookN [] k = none:=rfl
theorem glookN_cons {i k v : Nat} {L : List (Nat × Nat)} : glookN ((i,v) :: L) k = if k = i then some v else glookN L k:=rfl
def noughtV (n : Nat) : AV:=.sl 1 n (List.replicate n (.v (.int .u8 0))) .no
def frzB (P : Program) (N : Nat) (o : Oper) (n : Nat) : Bool :=
  freshB P N o &&
  match o.op with
  | .makeSlice T (.const (.int _ m)) _ =>
    decide (m = (n : Int)) && (match P.underlying T with
      | some (.slice e)=>decide (P.cellsOf e = 1) && (match zcells P e with | some [.v (.int .u8 x)]=>decide (x = 0) | _=>false)
      | _=>false)
  | _=>false
theorem frzB_spec {o : Oper} {n : Nat} (h : frzB P N o n = true) : freshB P N o = true∧frzV P o = some (noughtV n):=by
  simp only [frzB,Bool.and_eq_true] at h
  obtain ⟨h1,h2⟩:=h
  refine ⟨h1,?_⟩
  split at h2
  · rename_i T k m y ho
    simp only [Bool.and_eq_true,decide_eq_true_eq] at h2
    obtain ⟨rfl,h2⟩:=h2
    split at h2
    · rename_i e hT
      simp only [Bool.and_eq_true,decide_eq_true_eq] at h2
      obtain ⟨hc,h2⟩:=h2
      split at h2
      · rename_i x hz
        simp only [decide_eq_true_eq] at h2
        subst h2
        simp only [frzV,ho,hT,hz,hc,noughtV,Nat.mul_one,zrow_one,Int.toNat_natCast]
      · cases h2
    · cases h2
  · cases h2
def mkOf (fl : List Nat) (fz : List (Nat × Nat)) (gv : List (Nat × AV)) (i : Nat) : Mk:=if fl.contains i = true then .eff else match glookN fz i with | some _=>.frz | none=>match glook gv i with | some v=>.giv v | none=>.val
theorem mkOf_eff {fl : List Nat} {fz : List (Nat × Nat)} {gv : List (Nat × AV)} {i : Nat} : (mkOf fl fz gv i).isEff = fl.contains i:=by
  unfold mkOf
  split
  · rename_i h; rw [h]; rfl
  · rename_i h
    rw [Bool.not_eq_true] at h
    rw [h]
    cases glookN fz i with
    | some n=>rfl
    | none=>cases glook gv i <;> rfl
def pairsOkF (ops : Array Oper) (D : List Nat) (fl fr : List Nat) : Bool :=
  (List.range ops.size).all fun j=>(List.range j).all fun i =>
    match ops[i]?,ops[j]? with
    | some x,some y=>(D.getD j 0).testBit i || (x.apart ops y && !(fl.contains i && fl.contains j && !(fr.contains i && fr.contains j)))
    | _,_=>true
def drawOkF (P : Program) (N : Nat) (ops : Array Oper) (fl fr : List Nat) (fz : List (Nat × Nat)) : Bool :=
  depEq ops (Region.before ops).toList && pairsOkF ops (Region.before ops).toList fl fr && (fr.all fun i=>freshB P N ((ops[i]?).getD default)) &&
    (List.range ops.size).all fun i=>match ops[i]?,glookN fz i with | some o,some n=>frzB P N o n | _,_=>true
def markG (mk : Nat→Mk) : Nat→List Oper→List (Oper × Mk)
  | _,[]=>[]
  | k,o :: L=>(o,mk k) :: markG mk (k + 1) L
theorem markG_get (mk : Nat→Mk) : ∀ (L : List Oper) (k i : Nat),(markG mk k L)[i]? = (L[i]?).map fun o=>(o,mk (k + i))
  | [],k,i=>by simp [markG]
  | o :: L,k,0=>by simp [markG]
  | o :: L,k,i + 1=>by
    simp only [markG,List.getElem?_cons_succ,markG_get mk L (k + 1) i]
    rw [show k + 1 + i = k + (i + 1) by omega]
theorem markedG_eq (mk : Nat→Mk) : markedG ops mk = markG mk 0 ops.toList:=by
  apply List.ext_getElem?
  intro i
  simp only [markedG,List.getElem?_map,markG_get,Nat.zero_add]
  by_cases h : i < ops.size
  · simp [h,opAtG]
  · simp [h]
def AGivK (P : Program) (Γ : Nat→List AV) (k : FuncId) (as : List AV) (v : AV) (c : Prop) : Prop:=(∀ s,ACalls P Γ k as s (fun r s'=>r = v∧s' = s))∧c
theorem agivk {k : FuncId} {as : List AV} {v : AV} {c : Prop} (h : ∀ s,ACalls P Γ k as s (fun r s'=>r = v∧s' = s)) (hc : c) : AGivK P Γ k as v c:=⟨h,hc⟩
def AGiv (P : Program) (Γ : Nat→List AV) (N : Nat) (o : Oper) (v : AV) (C : Env→Prop) (E : Env) : Prop:=(∀ d,o.dst = some d→d < N)∧GivC P Γ o E v∧C (updO E o.dst v)
theorem AGiv_call {dst : Option Tmp} {k : FuncId} {args : Array Operand} {aT : Array TypeId} {ty : TypeId} {pos : String} {after : Array Edge} {v : AV} {C : Env→Prop} {E : Env} :
    AGiv P Γ N { dst:=dst,op:=.call { callee:=.value (.func k),args:=args,argTypes:=aT },type:=ty,pos:=pos,after:=after,guard:=none } v C E =
      ((∀ d,dst = some d→d < N)∧callable P k = true∧AGivK P Γ k (args.toList.map (aeval Γ E)) v (C (updO E dst v))):=by
  apply propext
  constructor
  · rintro ⟨h1,⟨_,h2⟩,h3⟩
    exact ⟨h1,h2.2.2.1,h2.2.2.2,h3⟩
  · rintro ⟨h1,h2,h3,h4⟩
    exact ⟨h1,⟨rfl,⟨rfl,rfl,h2,h3⟩⟩,h4⟩
def AXz0 (P : Program) (Γ : Nat→List AV) (N : Nat) (ops : Array Oper) (fl : List Nat) (fz : List (Nat × Nat)) (gv : List (Nat × AV)) : Nat→List Oper→(Env→AS→Prop)→Env→AS→Prop
  | _,[],K,E,s=>K E s
  | k,o :: rest,K,E,s =>
    if fl.contains k = true then AX P Γ N ops [o] (AXz0 P Γ N ops fl fz gv (k + 1) rest K) E s
    else match glookN fz k with
      | some n=>(∀ d,o.dst = some d→d < N)∧AXz0 P Γ N ops fl fz gv (k + 1) rest K (updO E o.dst (noughtV n)) s
      | none =>
        match glook gv k with
        | some v=>AGiv P Γ N o v (fun E=>AXz0 P Γ N ops fl fz gv (k + 1) rest K E s) E
        | none=>((∀ d,o.dst = some d→d < N)∧match pval P Γ ops o E with | some v=>AXz0 P Γ N ops fl fz gv (k + 1) rest K (updO E o.dst v) s | none=>False)
theorem axz_is : ∃ f : Program→(Nat→List AV)→Nat→Array Oper→List Nat→List (Nat × Nat)→List (Nat × AV)→Nat→List Oper→(Env→AS→Prop)→Env→AS→Prop,f = AXz0:=⟨_,rfl⟩
noncomputable def AXz : Program→(Nat→List AV)→Nat→Array Oper→List Nat→List (Nat × Nat)→List (Nat × AV)→Nat→List Oper→(Env→AS→Prop)→Env→AS→Prop:=Classical.choose axz_is
theorem axz : AXz = AXz0:=Classical.choose_spec axz_is
theorem AXz_nil {fl : List Nat} {fz : List (Nat × Nat)} {gv : List (Nat × AV)} {k : Nat} {K : Env→AS→Prop} {E : Env} : AXz P Γ N ops fl fz gv k [] K E s = K E s:=by rw [axz]; rfl
theorem AXz_cons {fl : List Nat} {fz : List (Nat × Nat)} {gv : List (Nat × AV)} {k : Nat} {o : Oper} {rest : List Oper} {K : Env→AS→Prop} {E : Env} : AXz P Γ N ops fl fz gv k (o :: rest) K E s =
    if fl.contains k = true then AY P Γ N ops [o] (AXz P Γ N ops fl fz gv (k + 1) rest K) E s
    else match glookN fz k with
      | some n=>(∀ d,o.dst = some d→d < N)∧AXz P Γ N ops fl fz gv (k + 1) rest K (updO E o.dst (noughtV n)) s
      | none =>
        match glook gv k with
        | some v=>AGiv P Γ N o v (fun E=>AXz P Γ N ops fl fz gv (k + 1) rest K E s) E
        | none=>((∀ d,o.dst = some d→d < N)∧match pval P Γ ops o E with | some v=>AXz P Γ N ops fl fz gv (k + 1) rest K (updO E o.dst v) s | none=>False):=by rw [axz,ay]; rfl
theorem AXz0_g {fl : List Nat} {fz : List (Nat × Nat)} {gv : List (Nat × AV)} {K : Env→AS→Prop} : ∀ (L : List Oper) (k : Nat) {E : Env} {s : AS},(∀ i o n,L[i]? = some o→glookN fz (k + i) = some n→frzB P N o n = true) →
    AXz0 P Γ N ops fl fz gv k L K E s→AXg P Γ N ops (markG (mkOf fl fz gv) k L) K E s
  | [],k,E,s,_,h=>h
  | o :: L,k,E,s,hc,h=>by
    have hc' : ∀ i o n,L[i]? = some o→glookN fz (k + 1 + i) = some n→frzB P N o n = true:=fun i o' n h1 h2=>hc (i + 1) o' n (by simpa using h1) (by rw [show k + (i + 1) = k + 1 + i by omega]; exact h2)
    simp only [AXz0] at h
    simp only [markG,AXg,mkOf_eff]
    cases hf : fl.contains k with
    | true =>
      rw [hf] at h
      simp only [if_true] at h ⊢
      have mono : ∀ {K K' : Env→AS→Prop} {E : Env} {s : AS},(∀ E s,K E s→K' E s)→AX P Γ N ops [o] K E s→AX P Γ N ops [o] K' E s:=fun hk h=>AX_mono _ hk h
      exact mono (fun E' s' hE=>AXz0_g L (k + 1) hc' hE) h
    | false =>
      rw [hf] at h
      simp only [Bool.false_eq_true,if_false] at h ⊢
      cases hz : glookN fz k with
      | some n =>
        rw [hz] at h
        have hm : mkOf fl fz gv k = .frz:=by unfold mkOf; rw [if_neg (by rw [hf]; simp),hz]
        rw [hm]
        exact ⟨h.1,_,frzB_spec (hc 0 o n rfl (by simpa using hz)),AXz0_g L (k + 1) hc' h.2⟩
      | none =>
        rw [hz] at h
        simp only at h
        cases hg : glook gv k with
        | some v =>
          rw [hg] at h
          have hm : mkOf fl fz gv k = .giv v:=by unfold mkOf; rw [if_neg (by rw [hf]; simp),hz]; simp only [hg]
          rw [hm]
          obtain ⟨h1,h2,h3⟩:=h
          exact ⟨h1,v,⟨rfl,h2⟩,AXz0_g L (k + 1) hc' h3⟩
        | none =>
          rw [hg] at h
          have hm : mkOf fl fz gv k = .val:=by unfold mkOf; rw [if_neg (by rw [hf]; simp),hz]; simp only [hg]
          rw [hm]
          refine ⟨h.1,?_⟩
          have h:=h.2
          split at h
          · rename_i v hv
            exact ⟨v,hv,AXz0_g L (k + 1) hc' h⟩
          · exact h.elim
theorem drawOkF_spec {fl : List Nat} {fz : List (Nat × Nat)} {gv : List (Nat × AV)} {fr : List Nat} (h : drawOkF P N ops fl fr fz = true) : drawOkG ops (mkOf fl fz gv) fr = true∧(∀ i ∈ fr,FreshAt P Γ N ops ((ops[i]?).getD default)) ∧
    ∀ i o n,ops.toList[i]? = some o→glookN fz (0 + i) = some n→frzB P N o n = true:=by
  simp only [drawOkF,Bool.and_eq_true] at h
  obtain ⟨⟨⟨h1,h2⟩,h3⟩,h4⟩:=h
  refine ⟨?_,fun i hi=>freshB_spec (List.all_eq_true.1 h3 i hi),fun i o n ho hn=>?_⟩
  · simp only [drawOkG,Bool.and_eq_true]
    refine ⟨h1,?_⟩
    unfold pairsOkG
    unfold pairsOkF at h2
    simpa only [mkOf_eff] using h2
  · rw [Nat.zero_add] at hn
    have ho' : ops[i]? = some o:=by simpa using ho
    have hi : i < ops.size:=(Array.getElem?_eq_some_iff.1 ho').1
    have:=List.all_eq_true.1 h4 i (by simpa using hi)
    rw [ho',hn] at this
    exact this
section
variable {Q : Exit→Env→AS→Prop} {E : Env}
theorem awp_drf_seq (hm : P.follows .mixedOrders = true) (fl : List Nat) (fz : List (Nat × Nat)) (gv : List (Nat × AV)) (fr : List Nat) {id : Nat} {L : List Oper} {y : Code} (hok : drawOkF P N L.toArray fl fr fz = true) (h : ∀ K : Env→AS→Prop,(∀ E s,AWp P Γ N y Q E s→K E s)→AXz P Γ N L.toArray fl fz gv 0 L K E s) :
    AWp P Γ N (.seq (.region id L.toArray true) y) Q E s:=by
  obtain ⟨h1,h2,h3⟩:=drawOkF_spec (Γ:=Γ) (gv:=gv) hok
  refine awp_seq (awp_region_drawG hm (mkOf fl fz gv) fr h1 h2 ?_)
  have:=h _ (fun _ _ h=>h)
  rw [axz] at this
  rw [markedG_eq]
  exact AXz0_g L 0 h3 this
end
end Go.AM
namespace Go.AM
open Go Go.RowKit
variable {P : Program} {Γ : Nat→List AV} {G : Gh} {s : AS} {w : World} {N : Nat} {ops : Array Oper}
variable {Q : Exit→Env→AS→Prop} {E : Env}
theorem set_four {s : AS} {o1 o2 : Nat} (h : o1≠o2) (a b c d : List AV) : (((s.set o1 a).set o2 b).set o1 c).set o2 d = (s.set o1 c).set o2 d:=by
  rw [AS.set_mid _ h,AS.set_set]
end Go.AM
namespace Go.AM
open Go Go.RowKit
variable {P : Program} {Γ : Nat→List AV} {G : Gh} {s : AS} {w : World} {N : Nat}
theorem AVs.weak.trans {a b c : List AV} (h : AVs.weak a b) (k : AVs.weak b c) : AVs.weak a c:=fun G v hv=>k G v (h G v hv)
theorem AVs.weak.append {a b c d : List AV} (h : AVs.weak a c) (k : AVs.weak b d) : AVs.weak (a ++ b) (c ++ d):=by
  intro G v hv
  have hl:=hv.length
  have h1:=hv.take a.length
  have h2:=hv.drop a.length
  rw [List.take_left] at h1
  rw [List.drop_left] at h2
  have:=VRels.append (h G _ h1) (k G _ h2)
  rwa [List.take_append_drop] at this
def AS.tells (Γ : Nat→List AV) (s s' : AS) : Prop:=∀ G w,SRel Γ G s w→SRel Γ G s' w
theorem AS.tells.refl (s : AS) : AS.tells Γ s s:=fun _ _ h=>h
theorem AS.tells.trans {a b c : AS} (h : AS.tells Γ a b) (k : AS.tells Γ b c) : AS.tells Γ a c:=fun G w x=>k G w (h G w x)
theorem SRel.weakObj {o : Nat} {cs cs' : List AV} (h : SRel Γ G s w) (ho : s.objs o = some cs) (hw : AVs.weak cs cs') : SRel Γ G (s.set o cs') w:=by
  refine ⟨h.ro,?_,h.objLt,h.inj,h.own,h.ownInj,h.ownLast,h.freshO,h.freshT,h.below,h.others,h.base,h.glob,h.soft⟩
  intro o' ds hd
  by_cases e : o' = o
  · subst e
    rw [AS.set_objs_same] at hd
    cases hd
    obtain ⟨b,vs,h1,h2,h3,h4⟩:=h.objs o' cs ho
    exact ⟨b,vs,h1,hw G vs h2,h3,h4⟩
  · rw [AS.set_objs_ne _ e] at hd
    exact h.objs o' ds hd
theorem AS.tells_obj {o : Nat} {cs cs' : List AV} (ho : s.objs o = some cs) (hw : AVs.weak cs cs') : AS.tells Γ s (s.set o cs'):=fun _ _ h=>h.weakObj ho hw
def RBuf (sz : Nat) (s0 s : AS) (x : AV) (n : Nat) (cs : List AV) : Prop:=(x = nilS∧n = 0∧cs = [])∨∃ t e,x = .sl sz n cs (.own t e)∧s.own t = some e∧s0.own t = none
theorem RBuf.weak {sz : Nat} {s0 s : AS} {x : AV} {n : Nat} {cs : List AV} (h : RBuf sz s0 s x n cs) : x.weak (.sl sz n cs .any):=by
  rcases h with ⟨rfl,rfl,rfl⟩ | ⟨t,e,rfl,_,_⟩
  · exact AV.weak_nil
  · exact AV.weak_any
theorem RBuf.one {sz : Nat} {s0 s : AS} {x : AV} {n : Nat} {cs : List AV} (h : RBuf sz s0 s x n cs) : x.one = true:=by
  rcases h with ⟨rfl,_,_⟩ | ⟨t,e,rfl,_,_⟩
  · rfl
  · rfl
theorem RBuf.nil (sz : Nat) (s0 s : AS) : RBuf sz s0 s nilS 0 []:=.inl ⟨rfl,rfl,rfl⟩
theorem RBuf.own {sz : Nat} {s0 s s' : AS} {x : AV} {n : Nat} {cs : List AV} (h : RBuf sz s0 s x n cs) (k : ∀ t e,s.own t = some e→s0.own t = none→s'.own t = some e) : RBuf sz s0 s' x n cs:=by
  rcases h with h | ⟨t,e,h1,h2,h3⟩
  · exact .inl h
  · exact .inr ⟨t,e,h1,k t e h2 h3,h3⟩
end Go.AM
