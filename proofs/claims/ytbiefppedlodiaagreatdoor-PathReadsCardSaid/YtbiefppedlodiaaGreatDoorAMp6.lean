/- An abstract machine for the model and the rules of its walk, each proved sound over the model; no condition. -/
import Derived.Test.YtbiefppedlodiaaGreatDoorAMp5
import Derived.RangeFuncIn
import Derived.RangeFuncRecord
import Derived.RangeFuncSeq
import Derived.RangeFuncLeaves
import Derived.Test.YtbiefppedlodiaaGreatDoorAMp4
import Derived.SizedLaws
import Derived.OpenShut
set_option linter.unusedSimpArgs false
set_option linter.unusedVariables false
namespace Go.AM
open Go Go.RowKit
variable {rd : Option Nat} {P : Program} {Γ : Nat→List AV} {G : Gh} {s : AS} {w : World}
theorem pG {N : Nat} {E : Env} {Q : Exit→Env→AS→Prop} {id : Nat} (L1 L2 : List Oper) {o : Oper} {code : Code} (hg : o.guard = none) (hd : ∀ d,o.dst = some d→d < N)
    (h : AY P Γ N (L1 ++ o :: L2).toArray L1 (fun E1 s1=>∃ K1 : AV→AS→Prop,(∀ G a w,Rel Γ N G E1 s1 a w→du P Γ G K1 ((execOp a.eval o).run P w)) ∧
      ∀ r s2,K1 r s2→AY P Γ N (L1 ++ o :: L2).toArray L2 (fun E' s'=>ck P Γ N code Q E' s') (bg E1 o.dst r) s2) E s) :
    ck P Γ N (.seq (.region id (L1 ++ o :: L2).toArray false) code) Q E s:=by
  rw [ay] at h;refine jq ?_;intro G a w hr;refine wpIn_region ?_;have cu : ∀ ops : Array Oper,(List.range ops.size).map (ops[·]?) = ops.toList.map some:=by
    intro ops;apply List.ext_getElem?;intro i;simp only [List.getElem?_map];by_cases hi : i < ops.size
    · simp [hi]
    · simp [hi]
  have pH:=cu (L1 ++ o :: L2).toArray;generalize hI : List.range (L1 ++ o :: L2).toArray.size = I at pH;have h1 : (I.take L1.length).map ((L1 ++ o :: L2).toArray[·]?) = L1.map some:=by
    rw [List.map_take,pH]; simp
  have h2 : (I.drop L1.length).map ((L1 ++ o :: L2).toArray[·]?) = (o :: L2).map some:=by
    rw [List.map_drop,pH]; simp
  rw [← List.take_append_drop L1.length I];generalize I.take L1.length = I1 at h1;generalize I.drop L1.length = I2 at h2;cases I2 with
  | nil=>simp at h2
  | cons i I2 =>
    simp only [List.map_cons,List.cons.injEq] at h2;refine dZ L1 I1 (i :: I2) h1 (dK _ h) hr ?_;rintro G1 E1 s1 a1 w1 ig ra ⟨⟨K1,gk,hk⟩,CQ⟩;rw [wpOpsIn_cons];simp only [wpOpIn,h2.1];rw [if_pos (ee hg)];refine (Oper.mX ra hd (gk G1 a1 w1 ra) ?_);intro G3 r s3 a3 w3 Ru rb hK;refine lr L2 I2 h2.2 (dK _ (hk r s3 hK)) rb ?_;rintro G4 E4 s4 a4 w4 V0 D9 ⟨Tc,LO⟩;refine ⟨G4,E4,s4,ig.trans (Ru.trans V0),D9,Tc,?_⟩;intro i hi;have mem : ∀ L : List Oper,i ∈ bU L↔∃ o ∈ L,o.dst = some i:=(fun L=>by simp [bU,List.mem_filterMap]);have bc : ¬ ∃ o' ∈ L1 ++ o :: L2,o'.dst = some i:=fun hm=>hi ((mem _).2 hm);have m1 : i ∉ bU L1:=fun hm=>bc (by obtain ⟨o,k1,k2⟩:=(mem _).1 hm; exact ⟨o,by simp [k1],k2⟩);have m2 : i ∉ bU L2:=fun hm=>bc (by obtain ⟨o,k1,k2⟩:=(mem _).1 hm; exact ⟨o,by simp [k1],k2⟩);have m3 : o.dst≠some i:=fun e=>bc ⟨o,by simp,e⟩;rw [LO i m2,bW m3,CQ i m1]
theorem CR {N : Nat} {E : Env} {Q : Exit→Env→AS→Prop} {id : Nat} {L2 : List Oper} {o : Oper} {code : Code} (hg : o.guard = none) (hd : ∀ d,o.dst = some d→d < N) (K1 : AV→AS→Prop)
    (gk : ∀ G a w,Rel Γ N G E s a w→du P Γ G K1 ((execOp a.eval o).run P w))
    (h : ∀ r s2,K1 r s2→AY P Γ N (o :: L2).toArray L2 (fun E' s'=>ck P Γ N code Q E' s') (bg E o.dst r) s2) :
    ck P Γ N (.seq (.region id (o :: L2).toArray false) code) Q E s :=
  pG [] L2 hg hd (by rw [GU]; exact ⟨K1,gk,h⟩)
theorem ER {ρ : Operand→AV} {ρ' : Operand→Value} {o : Oper} {T : TypeId} {len : Nat} {parts : Array (Nat × Operand)} {cs z : List AV} {e : TypeId} (ho : o.op = .buildSlice T len parts)
    (hu : P.underlying T = some (.slice e)) (hz : ba P e = some z) (c1 : P.cellsOf e≠0) (c2 : len * P.cellsOf e≤2 ^ 24) (c3 : z.length = P.cellsOf e)
    (h1 : iP (fun i=>some (i * P.cellsOf e,P.cellsOf e)) (lW (len * P.cellsOf e) z) (parts.toList.map fun p=>(p.1,ρ p.2)) = some cs) (hρ : ∀ x,au G (ρ x) (ρ' x)) (hs : aN Γ G s w) :
    du P Γ G (fun r s'=>∃ ob,s.aq ob = none∧r = .gw ob 0 (P.cellsOf e) len len∧s' = s.set ob cs) ((execOp ρ' o).run P w):=by
  obtain ⟨v,hv,rfl⟩:=dE hz;have dp : v.cells.toList≠[]:=by
    intro e';rw [e'] at c3;simp at c3;omega
  obtain ⟨vs,h2,h3⟩:=jX (G:=G) (qs:=(parts.map fun p=>(p.1,ρ' p.2)).toList) _ h1 (by simpa using fb.of_map hρ parts.toList) (rG (len * P.cellsOf e) dp);obtain ⟨ob,k1,k2,k3,k4⟩:=hs.newObj h3 e;refine (show execOp ρ' o = (do pure (.value (← Instr.buildSlice T len (parts.map fun p=>(p.1,ρ' p.2))))) by simp only [execOp,ho]) ▸ dF ⟨_,.slice (some ⟨w.heap.size,0,none⟩) len len,_,_,_,?_,k2,k3,?_,ob,k1,rfl,rfl⟩
  · simp only [Instr.buildSlice,Sem.run_bind,run_underlying hu,Result.andThen_ok,aQ c1];rw [if_neg (by omega)];by_cases h0 : len * P.cellsOf e = 0
    · have ku : (Array.range (len * P.cellsOf e)).map (fun i=>(#[] : Array Value)[i % (#[] : Array Value).size]!) = ((List.range (len * P.cellsOf e)).map fun i=>v.cells.toList.toArray[i % v.cells.toList.toArray.size]!).toArray:=by
        rw [h0]; simp
      rw [if_pos h0];simp only [Sem.run_bind,Sem.run_pure,Result.andThen_ok,ku];simp only [h2];simp [newRow]
    · have ku : (Array.range (len * P.cellsOf e)).map (fun i=>v.cells[i % v.cells.size]!) = ((List.range (len * P.cellsOf e)).map fun i=>v.cells.toList.toArray[i % v.cells.toList.toArray.size]!).toArray:=by
        apply Array.ext';simp
      rw [if_neg h0];simp only [Sem.run_bind,hv,Sem.run_pure,Result.andThen_ok,ku];simp only [h2];simp [newRow]
  · simp only [au];exact ⟨_,k4,rfl,Nat.le_refl _⟩
end Go.AM
namespace Go.AM
open Go Go.RowKit
variable {P : Program} {Γ : Nat→List AV} {G : Gh} {s : AS} {w : World} {N : Nat} {E : Env}
theorem Oper.vX {l : Option Nat} {a : Act} {o : Oper} {K : AV→AS→Prop} {next : Act→World→Prop} {Q : Exit→Act→World→Prop} (hnd : ∀ c,o.op≠.defer c) (hr : Rel Γ N G E s a w) (hd : ∀ d,o.dst = some d→d < N)
    (h : du P Γ G K ((execOp a.eval o).run P w)) (hn : ∀ G' r s' a' w',G.le G'→Rel Γ N G' (bg E o.dst r) s' a' w'→K r s'→next a' w') : o.wpIn (sO l) 0 P a w next Q:=by
  refine ⟨fun _ _=>trivial,?_⟩;rw [Oper.semAt_eq _ _ _ hnd];generalize (execOp a.eval o).run P w = R at h;cases R with
  | ok n w' =>
    cases n <;> simp only [du] at h;case value v =>
      obtain ⟨G',r,s',h1,h2,h3,h4⟩:=h;simp only [Oper.uponIn];exact hn G' r s' _ _ h1 (hr.put h1 h2 h3 hd) h4
    case skip =>
      obtain ⟨G',s',h1,h2,h3⟩:=h;simp only [Oper.uponIn];exact hn G' (.v undef) s' _ _ h1 (hr.put h1 h2 (by simp [au]) hd) h3
    case enter f args =>
      simp only [Oper.uponIn];refine ⟨(fun e=>by cases e),CallsIn.mono (F:=Fence.wide) (callsIn_wide.2 h) ?_⟩;rintro e ux ⟨G',r,v,s',rfl,h1,h2,h3,h4⟩;exact hn G' r s' _ _ h1 (hr.put h1 h2 h3 hd) h4
  | halt x w'=>simp only [du] at h
theorem vY {ρ : Operand→AV} {K : AV→AS→Prop} {op : Op} (h : bX P Γ ρ s K op) (c : Call) : op≠.defer c:=by
  rintro rfl;simp [bX,cE,cY] at h
theorem BH {l : Option Nat} {a : Act} {ops : Array Oper} {i : Nat} {I : List Nat} {o : Oper} {L : List Oper} {K : Env→AS→Prop} {Q : Exit→Act→World→Prop} (ho : ops[i]? = some o)
    (h : AX P Γ N ops (o :: L) K E s) (hr : Rel Γ N G E s a w) (hn : ∀ G' E' s' a' w',G.le G'→Rel Γ N G' E' s' a' w'→AX P Γ N ops L K E' s'→wpOpsIn (sO l) 0 P ops Q I a' w') : wpOpsIn (sO l) 0 P ops Q (i :: I) a w:=by
  simp only [AX] at h;obtain ⟨hd,h⟩:=h;simp only [wpOpsIn,ho];split at h
  · rename_i hg;rw [if_pos (ee hg)];exact Oper.vX (vY h) hr hd (jZ o h hr.eval hr.st) fun G' r s' a' w' h1 h2 h3=>hn G' _ s' a' w' h1 h2 h3
  · rename_i j want hg;split at h
    · exact h.elim
    · rename_i d hj;split at h
      · rename_i t hE;have hy:=xU hr hj hE;have hw : Region.wanted o (yielded ops a.tmps) = (t == want):=(by simp [Region.wanted,hg,hy]);split at h
        · rename_i ht;rw [if_pos (by rw [hw]; simpa using ht)];exact Oper.vX (vY h) hr hd (jZ o h hr.eval hr.st) fun G' r s' a' w' h1 h2 h3=>hn G' _ s' a' w' h1 h2 h3
        · rename_i ht;rw [if_neg (by rw [hw]; simpa using ht)];exact ⟨fun _ _=>trivial,hn G _ s _ _ (.refl G) (hr.put (.refl G) hr.st (by simp [au]) hd) h⟩
      · rename_i c hE;have hy:=sQ hr hj hE;have hw : Region.wanted o (yielded ops a.tmps) = false:=(by simp [Region.wanted,hg,hy]);rw [if_neg (by rw [hw]; simp)];exact ⟨fun _ _=>trivial,hn G _ s _ _ (.refl G) (hr.put (.refl G) hr.st (by simp [au]) hd) h⟩
      · exact h.elim
theorem iz {l : Option Nat} {ops : Array Oper} {Q : Exit→Act→World→Prop} {K : Env→AS→Prop} : ∀ (L : List Oper) (I J : List Nat) {G : Gh} {E : Env} {s : AS} {a : Act} {w : World},I.map (ops[·]?) = L.map some→AX P Γ N ops L K E s→Rel Γ N G E s a w →
    (∀ G' E' s' a' w',G.le G'→Rel Γ N G' E' s' a' w'→K E' s'→wpOpsIn (sO l) 0 P ops Q J a' w')→wpOpsIn (sO l) 0 P ops Q (I ++ J) a w
  | [],I,J,G,E,s,a,w,hI,h,hr,hq=>by
    have : I = []:=(by simpa using hI);subst this;exact hq G E s a w (.refl G) hr h
  | o :: L,I,J,G,E,s,a,w,hI,h,hr,hq=>by
    cases I with
    | nil=>simp at hI
    | cons i I =>
      simp only [List.map_cons,List.cons.injEq] at hI;exact BH hI.1 h hr fun G' E' s' a' w' h1 h2 h3=>iz L I J hI.2 h3 h2 fun sA gB fD xV ux k1 k2 k3=>hq sA gB fD xV ux (h1.trans k1) k2 k3
theorem nR {l : Option Nat} {ops : Array Oper} {Q : Exit→Act→World→Prop} {K : Env→AS→Prop} : ∀ (L : List Oper) (I : List Nat) {G : Gh} {E : Env} {s : AS} {a : Act} {w : World},I.map (ops[·]?) = L.map some→AX P Γ N ops L K E s→Rel Γ N G E s a w →
    (∀ G' E' s' a' w',G.le G'→Rel Γ N G' E' s' a' w'→K E' s'→Q .normal a' w')→wpOpsIn (sO l) 0 P ops Q I a w
  | [],I,G,E,s,a,w,hI,h,hr,hq=>by
    have : I = []:=(by simpa using hI);subst this;exact hq G E s a w (.refl G) hr h
  | o :: L,I,G,E,s,a,w,hI,h,hr,hq=>by
    cases I with
    | nil=>simp at hI
    | cons i I =>
      simp only [List.map_cons,List.cons.injEq] at hI;exact BH hI.1 h hr fun G' E' s' a' w' h1 h2 h3=>nR L I hI.2 h3 h2 fun sA gB fD xV ux k1 k2 k3=>hq sA gB fD xV ux (h1.trans k1) k2 k3
theorem lD {l : Option Nat} {id : Nat} {ops : Array Oper} {Q : Exit→Act→World→Prop} {K : Env→AS→Prop} {a : Act} (h : AY P Γ N ops ops.toList K E s) (hr : Rel Γ N G E s a w)
    (hq : ∀ G' E' s' a' w',G.le G'→Rel Γ N G' E' s' a' w'→K E' s'→Q .normal a' w') : (Code.region id ops false).wpIn (sO l) 0 P Q a w:=by
  rw [ay] at h;refine wpIn_region (nR ops.toList _ ?_ h hr hq);apply List.ext_getElem?;intro i;simp only [List.getElem?_map];by_cases hi : i < ops.size
  · simp [hi]
  · simp [hi]
theorem ES {W : World} {k : Nat} {o o' : Obj} (hk : W.heap[k]? = some o) (ho : ∀ c T f,o≠.cells c T f) (sG : ∀ c T f,o'≠.cells c T f) (b j : Nat) : (W.putObj k o').cell? ⟨b,j,none⟩ = W.cell? ⟨b,j,none⟩:=by
  by_cases e : b = k
  · subst e;have h1:=World.putObj_heap_same (w:=W) (o:=o') (Array.getElem?_eq_some_iff.1 hk).1;simp only [World.cell?,h1,hk];cases o <;> cases o' <;> first | rfl | exact absurd rfl (ho _ _ _) | exact absurd rfl (sG _ _ _)
  · exact World.cell?_of_block (World.putObj_heap_other e)
theorem Av {W : World} {k : Nat} {o o' : Obj} (hk : W.heap[k]? = some o) (ho : ∀ c T f,o≠.cells c T f) (sG : ∀ c T f,o'≠.cells c T f) (b j : Nat) : (W.putObj k o').frozen? ⟨b,j,none⟩ = W.frozen? ⟨b,j,none⟩:=by
  by_cases e : b = k
  · subst e;have h1:=World.putObj_heap_same (w:=W) (o:=o') (Array.getElem?_eq_some_iff.1 hk).1;simp only [World.frozen?,h1,hk];cases o <;> cases o' <;> first | rfl | exact absurd rfl (ho _ _ _) | exact absurd rfl (sG _ _ _)
  · exact World.frozen?_of_block (World.putObj_heap_other e)
theorem aN.putObj {W : World} {k : Nat} {o o' : Obj} (h : aN Γ G s W) (hk : W.heap[k]? = some o) (ho : ∀ c T f,o≠.cells c T f) (sG : ∀ c T f,o'≠.cells c T f) (hB : G.w0.heap.size≤k) (hB' : G.B≤k) : aN Γ G s (W.putObj k o'):=by
  have hg : W.grownBy (W.putObj k o') (some k):=⟨rfl,rfl,rfl,by simp [World.putObj],fun i _ hi=>World.putObj_heap_other (fun e=>hi (by rw [e]))⟩;refine h.CA (fun b j=>ES hk ho sG b j) (fun b j _ _=>Av hk ho sG b j) (by simp [World.putObj]) ?_ ?_ ?_
  · exact (Below.refl _ _).grown hg (by have:=(Array.getElem?_eq_some_iff.1 hk).1; omega) (fun i e=>by cases e; omega)
  · intro i x hi hx;have bS:=(Array.getElem?_eq_some_iff.1 hi).1;rw [World.putObj_heap_other (by omega)];exact h.others i x hi hx
  · intro b c T lo hi hb hc;by_cases e : b = k
    · subst e;rw [World.putObj_heap_same (Array.getElem?_eq_some_iff.1 hk).1] at hc;cases hc;exact absurd rfl (sG _ _ _)
    · rw [World.putObj_heap_other e] at hc;exact h.soft b c T lo hi hb hc
def Rv (P : Program) (Γ : Nat→List AV) (gf : FuncId) (cd : List AV) (xs : List AV) : Prop :=
  ∀ (S : Nat→AS) (l : Nat) (G : Gh) (W : World) (lb : List Value),G.df = []→ar G cd lb→aN Γ G (S 0) W →
    (∀ i x G1 u W1,xs[i]? = some x→G.le G1→aN Γ G1 (S i) W1→au G1 x u→YieldAt Fence.wide 0 P l #[u] W1 fun e W'=>e = .returned (.bool true)∧∃ G2,G1.le G2∧aN Γ G2 (S (i + 1)) W') →
    CallsIn Fence.wide 0 P gf (#[.func (.yield l) #[] #[]] ++ lb.toArray) W fun e W'=>(∃ v,e = .returned v)∧∃ G2,G.le G2∧aN Γ G2 (S xs.length) W'
theorem yx {a : Act} {g : Operand} {p : Tmp} {assign body : Code} {gf : FuncId} {cd xs : List AV} (hr : Rel Γ N G E s a w) (uK : G.df = []) (hg : aI Γ E g = .qK gf cd) (Lc : af P gf = true) (Ld : Rv P Γ gf cd xs)
    (hp : p < N) (S : Nat→AS) (hS : S 0 = s) (E1 : AV→Env)
    (Pv : ∀ (l i : Nat) (x : AV) (G1 : Gh) (a1 : Act) (W : World),xs[i]? = some x→Rel Γ N G1 (aF E p x) (S i) a1 W →
      assign.wpIn (sO (some l)) 0 P (fun e a' W'=>e = .normal∧∃ G2,G1.le G2∧Rel Γ N G2 (E1 x) (S i) a' W') a1 W)
    (V1 : ∀ (l i : Nat) (x : AV) (G1 : Gh) (a1 : Act) (W : World),xs[i]? = some x→Rel Γ N G1 (E1 x) (S i) a1 W →
      body.wpIn (sO (some l)) 0 P (fun e a' W'=>e = .normal∧∃ G2,G1.le G2∧aN Γ G2 (S (i + 1)) W') a1 W) :
    (Code.rangeFunc g #[p] assign body).wpIn Fence.wide 0 P (fun e a' w'=>e = .normal∧∃ D G',G.le G'∧w.heap.size≤D∧w'.heap[D]? = some (.deferred (some [])) ∧
      a' = { a with defers:={ target:=.collected D,args:=#[] } :: a.defers }∧aN Γ G' (S xs.length) w') a w:=by
  have Td:=hr.eval g;rw [hg] at Td;simp only [au] at Td;obtain ⟨lb,hg',Te⟩:=Td;have SW : G.w0.heap.size≤w.heap.size:=hr.st.below.size;have hBw : G.B≤w.heap.size:=hr.st.base;refine wpIn_rangeFunc ?_;intro fn V2;obtain ⟨rec,pI⟩ : ∃ rec : LoopState→Option Code→Loop,rec = fun st pe=>{ state:=st,pending:=pe,fn,tmps:=a.tmps,params:=#[p],assign,body,defers:=w.heap.size }:=⟨_,rfl⟩;obtain ⟨W1,Pw⟩ : ∃ W1,(w.alloc (.deferred (some []))).alloc (.loop (rec .ready none)) = W1:=⟨_,rfl⟩;have Tf : W1.heap[w.heap.size + 1]? = some (.loop (rec .ready none)):=by
    rw [← Pw]; have:=World.alloc_heap_new (w.alloc (.deferred (some []))) (.loop (rec .ready none)); rwa [World.size_alloc] at this
  have gE : W1.heap[w.heap.size]? = some (.deferred (some [])):=by
    rw [← Pw]; exact (Below.heap_alloc _ _ _ (by simp)).trans (World.alloc_heap_new w _)
  have iQ : aN Γ G s W1:=by
    rw [← Pw]; exact (hr.st.alloc _ (by intro c T lo hi e; cases e)).alloc _ (by intro c T lo hi e; cases e)
  refine ⟨w.heap.size + 1,[{ target:=.collected w.heap.size,args:=#[] }],W1,{ target:=.fn (.func gf) lb.toArray,args:=#[.func (.yield (w.heap.size + 1)) #[] #[]] },W1,gf,
    #[.func (.yield (w.heap.size + 1)) #[] #[]] ++ lb.toArray,W1,?_,?_,?_,?_,(fun e=>by cases e),?_⟩
  · rw [← Pw,pI]; exact run_enterLoop_outer _ _ _ _ _
  · simp only [resolve,hg'];simp [go_sem]
  · intro f' _; trivial
  · have:=nJ (w:=W1) Lc (#[.func (.yield (w.heap.size + 1)) #[] #[]] ++ lb.toArray);simpa [invoke,go_sem] using this
  · have hsW : aN Γ (G.setW W1) s W1:=iQ.setW;refine (Ld S (w.heap.size + 1) (G.setW W1) W1 lb uK (ar.sub (G.gA W1) _ _ Te) (hS ▸ hsW) ?_).mono ?_
    · rintro i x G1 u W hx hle h2 hu;have JX : G1.w0 = W1:=hle.w0;have Tg : G1.B = G.B:=hle.B;have JY : dt W1 W:=(by have:=h2.others; rwa [JX] at this);have hl:=JY _ _ Tf (by intros; simp);have hk:=JY _ _ gE (by intros; simp);have hbW : Below G.B W1 W:=(by have:=h2.below; rwa [JX,Tg] at this);obtain ⟨q1,q2⟩:=iQ.sI hle h2;have bS : w.heap.size + 1 < W.heap.size:=(Array.getElem?_eq_some_iff.1 hl).1;have hy:=run_yield (P:=P) (args:=#[u]) hl (by rw [pI]; rfl);rw [pI] at hy;refine ⟨fn,_,assign,body,hy,roundIn_of_wpIn V2 ?_⟩;have LP : Rel Γ N ((G1.setW G.w0).setW W) (aF E p x) (S i) { tmps:=((#[p] : Array Tmp).zip #[u]).foldl (fun t (p,v)=>t.setIfInBounds p v) a.tmps,defers:=[] } W:=by
        have e3 : ((#[p] : Array Tmp).zip #[u]).foldl (fun t (p,v)=>t.setIfInBounds p v) a.tmps = a.tmps.setIfInBounds p u:=(by simp);rw [e3];refine ⟨q1.setW,by simp [hr.size],fun k=>?_,by rw [show ((G1.setW G.w0).setW W).df = G1.df from rfl,hle.df]; exact uK.symm⟩;refine au.sub (G:=G1.setW G.w0) (Gh.gA _ _) _ _ ?_;simp only [aF];split
        · rename_i e;subst e;have : k < a.tmps.size:=(by rw [hr.size]; exact hp);simpa [Array.getD,this] using au.sub (G1.gA G.w0) _ _ hu
        · rename_i e;have:=au.mono q2 _ _ (hr.tmps k);simp only [Array.getD_eq_getD_getElem?] at this ⊢;rw [Array.getElem?_setIfInBounds_ne (by omega)];exact this
      refine wpIn_mono (Pv (w.heap.size + 1) i x _ _ W hx LP) ?_;rintro e a1 Wa ⟨rfl,Ga,Aw,JZ⟩;have Th : dt W Wa:=by
        have:=JZ.st.others;rwa [show Ga.w0 = W from Aw.w0] at this
      have hba : Below G.B W Wa:=by
        have:=JZ.st.below;rwa [show Ga.w0 = W from Aw.w0,show Ga.B = G.B from Aw.B.trans Tg] at this
      have Ti:=Th _ _ hl (by intros; simp);have xcC:=Th _ _ hk (by intros; simp);obtain ⟨gb1,gb2⟩:=q1.sI Aw JZ.st;refine ⟨_,run_beginRound Ti (by rw [pI]),?_⟩;have LQ : w.heap.size + 1 < Wa.heap.size:=(Array.getElem?_eq_some_iff.1 Ti).1;obtain ⟨W2,LR⟩ : ∃ W2,Wa.putObj (w.heap.size + 1) (.loop { rec .ready none with state:=.busy }) = W2:=⟨_,rfl⟩;have Iu : W2.heap[w.heap.size + 1]? = some (.loop { rec .ready none with state:=.busy }):=(by rw [← LR]; exact World.putObj_heap_same LQ);have Vh : Ga.B = G.B:=Aw.B.trans Tg;have oR : aN Γ (Ga.setW G.w0) (S i) W2:=by
        rw [← LR];exact gb1.putObj Ti (by intros; simp) (by intros; simp) (by show G.w0.heap.size≤_; omega) (by show Ga.B≤_; omega)
      rw [LR];have x6 : Rel Γ N ((Ga.setW G.w0).setW W2) (E1 x) (S i) a1 W2 :=
        ⟨oR.setW,JZ.size,fun k=>au.sub (G:=Ga) (G':=(Ga.setW G.w0).setW W2) ⟨rfl,rfl,rfl,rfl⟩ _ _ (JZ.tmps k),JZ.defers⟩
      refine wpIn_mono (V1 (w.heap.size + 1) i x _ _ W2 hx x6) ?_;rintro e a3 W3 ⟨rfl,G2,g1,g2⟩;have Tj : G2.w0 = W2:=g1.w0;have V3 : G2.B = G.B:=g1.B.trans Vh;have O9 : dt W2 W3:=by
        have:=g2.others;rwa [Tj] at this
      have V4 : Below G.B W2 W3:=by
        have:=g2.below;rwa [Tj,V3] at this
      have JK:=O9 _ _ Iu (by intros; simp);obtain ⟨g3,g4⟩:=oR.sI g1 g2;have rb : (Instr.endRound (w.heap.size + 1) none).run P W3 = .ok (.bool true) (W3.putObj (w.heap.size + 1) (.loop (rec .ready none))):=by
        have:=run_endRound (P:=P) none JK;rw [pI] at this ⊢;exact this
      have G9 : w.heap.size + 1 < W3.heap.size:=(Array.getElem?_eq_some_iff.1 JK).1;have ON:=g3.putObj (o':=.loop (rec .ready none)) JK (by intros; simp) (by intros; simp) (by show G.w0.heap.size≤_; omega) (by show G2.B≤_; omega);have V5 : ∀ (V : World) (o : Obj),w.heap.size + 1 < V.heap.size→Below G.B V (V.putObj (w.heap.size + 1) o):=fun V o hV =>
        (Below.refl _ _).grown (row:=some (w.heap.size + 1)) ⟨rfl,rfl,rfl,by simp [World.putObj],fun i _ hi=>World.putObj_heap_other (fun e=>hi (by rw [e]))⟩ (by omega) (fun i e=>by cases e; omega)
      refine ⟨_,_,rb,rfl,G2.setW W1,?_,?_⟩
      · exact ⟨fun b j v hv=>g1.ro b j v (Aw.ro b j v hv),fun o b hb=>g1.obj o b (Aw.obj o b hb),fun t e r ht=>g1.tok t e r (Aw.tok t e r ht),g1.B.trans Aw.B,JX.symm,g1.df.trans Aw.df⟩
      · refine ON.sub (G:=G2.setW G.w0) (G':=G2.setW W1) ⟨rfl,rfl,rfl,rfl⟩ rfl rfl ?_ ?_
        · show Below G2.B W1 _;rw [V3];refine (hbW.trans hba).trans (Below.trans ?_ (V4.trans (V5 _ _ G9)));rw [← LR];exact V5 _ _ LQ
        · intro k o LS vE;replace LS : W1.heap[k]? = some o:=LS;by_cases e : k = w.heap.size + 1
          · subst e;rw [Tf] at LS;cases LS;exact World.putObj_heap_same G9
          · rw [World.putObj_heap_other e];refine O9 k o ?_ vE;rw [← LR,World.putObj_heap_other e];exact Th k o (JY k o LS vE) vE
    · rintro e W2 ⟨⟨v,rfl⟩,G2,h1,h2⟩;have JX : G2.w0 = W1:=h1.w0;have JY : dt W1 W2:=(by have:=h2.others; rwa [JX] at this);have hl:=JY _ _ Tf (by intros; simp);have hk:=JY _ _ gE (by intros; simp);obtain ⟨q1,q2⟩:=iQ.sI h1 h2;refine ⟨none,_,by have:=run_endLoop (P:=P) hl (by rw [pI]; simp); rw [pI] at this; exact this,rfl,w.heap.size,G2.setW G.w0,q2,Nat.le_refl _,(World.putObj_heap_other (by omega)).trans hk,rfl,?_⟩;rw [pI] at hl;exact q1.putObj hl (by intros; simp) (by intros; simp) (by show G.w0.heap.size≤_; omega) (by rw [show (G2.setW G.w0).B = G2.B from rfl,h1.B]; show G.B≤_; omega)
theorem oH {f : FuncId} {fn : Func} {c : Code} {args : List AV} {b7 : AV→AS→Prop} {s : AS} (hf : P.funcs[f]? = some fn) (hb : fn.body = some c) (hn : args.length≤fn.ntmps)
    (h : ∀ G a w,G.df = []→Rel Γ fn.ntmps G (br args) s a w→c.wpIn Fence.wide 0 P (fun e a' w'=>(e = .normal∨e = .ret)∧∃ D G' E' s',G.le G'∧(G.w0.heap.size≤D∧G.B≤D)∧w'.heap[D]? = some (.deferred (some [])) ∧
      a'.defers = [{ target:=.collected D,args:=#[] }]∧Rel Γ fn.ntmps (G'.cP a'.defers) E' s' a' w'∧bz P fn.results.toList b7 E' s') a w) : ah P Γ f args s b7:=by
  intro G w vs hs hv;have Rk:=hv.length;refine (callsIn_wide (n:=0)).1 (callsIn_of_wp_marks hf hb trivial ?_);have x6 : Rel Γ fn.ntmps (G.cP []) (br args) s { tmps:=vs.toArray ++ Array.replicate (fn.ntmps - vs.toArray.size) undef,defers:=[] } w:=by
    refine ⟨hs.cP,by simp; omega,fun i=>?_,rfl⟩;simp only [br];by_cases hi : i < args.length
    · obtain ⟨u,h1,h2⟩:=hv.getD i hi;have bc : i < vs.length:=(by omega);rw [Array.getD_eq_getD_getElem?,Array.getElem?_append_left (by simpa using bc)];simp only [List.getElem?_toArray,h1,Option.getD_some];exact au.cP _ _ h2
    · have e1 : args.getD i (.v undef) = .v undef:=(by simp [List.getD,List.getElem?_eq_none (Nat.le_of_not_lt hi)]);rw [e1,Array.getD_eq_getD_getElem?,Array.getElem?_append_right (by simp; omega)];simp only [au];cases hh : (Array.replicate (fn.ntmps - vs.toArray.size) undef)[i - vs.toArray.size]? with
      | none=>rfl
      | some u =>
        rw [Array.getElem?_replicate] at hh;split at hh
        · cases hh; rfl
        · cases hh
  refine wpIn_mono (h _ _ w rfl x6) ?_;rintro e a' w' ⟨he,D,G',E',s',h1,hD,hk,uK,h2,h3⟩;have SW : G'.w0.heap.size≤D:=by
    rw [h1.w0];exact hD.1
  have hB : G'.B≤D:=by
    rw [h1.B];exact hD.2
  have fin : LeavesInM Fence.wide 0 P fn a'.tmps (fun e w'=>∃ G' r v s',e = .returned v∧G.le G'∧aN Γ G' s' w'∧au G' r v∧b7 r s') a'.defers .returning w':=by
    rw [uK];refine ⟨by simp,.inl ⟨D,_,rfl,run_takeDeferred hk,?_⟩⟩;have h4 : Rel Γ fn.ntmps (G'.cP a'.defers) E' s' a' (w'.putObj D (.deferred none)):=⟨h2.st.putObj hk (by intros; simp) (by intros; simp) SW hB,h2.size,h2.tmps,h2.defers⟩;unfold bz at h3;split at h3
    · rename_i OI Gn;obtain ⟨r,s2,q1,q2,q3⟩:=h3;obtain ⟨zs,r1,r2⟩:=qn h4 Gn;refine ⟨if h : zs.toArray.size = 1 then zs.toArray[0] else .tuple zs.toArray,?_,G'.cP G.df,r,_,s2,rfl,Gh.xH h1,(h4.st.mono q2).cP (d:=G.df),au.cP (G:=G'.cP a'.defers) (d:=G.df) _ _ (q1 _ _ (rL r2)),q3⟩;rw [lz,Array.mapM_eq_mapM_toList];simp only [Sem.run_bind,Sem.run_map,r1,Result.andThen_ok,Sem.run_pure]
    · exact h3.elim
  rcases he with rfl | rfl
  · exact fin
  · exact fin
theorem ck.wide {c : Code} {Q : Exit→Env→AS→Prop} {a : Act} (h : ck P Γ N c Q E s) (hr : Rel Γ N G E s a w) {R : Exit→Act→World→Prop}
    (hq : ∀ e G' E' s' a' w',G.le G'→Rel Γ N G' E' s' a' w'→Q e E' s'→R e a' w') : c.wpIn Fence.wide 0 P R a w :=
  wpIn_mono (F:=sO none) (n:=0) (h G a w hr) fun e a' w' ⟨G',E',s',h1,h2,h3,_⟩=>hq e G' E' s' a' w' h1 h2 h3
theorem ck.behind {c : Code} {Q : Exit→Env→AS→Prop} {a : Act} {G' : Gh} {D : Nat} {s' : AS} {w' : World} (hr : Rel Γ N G E s a w) (hle : G.le G') (hk : w'.heap[D]? = some (.deferred (some []))) (hs : aN Γ G' s' w') (uK : G.df = [])
    (h : ck P Γ N c Q E s') {R : Exit→Act→World→Prop}
    (hq : ∀ e sA gB fD xV ux,G.le sA→ux.heap[D]? = some (.deferred (some []))→xV.defers = [{ target:=.collected D,args:=#[] }]→Rel Γ N (sA.cP xV.defers) gB fD xV ux→Q e gB fD→R e xV ux) :
    c.wpIn Fence.wide 0 P R { a with defers:={ target:=.collected D,args:=#[] } :: a.defers } w':=by
  have ha : a.defers = []:=hr.defers.trans uK;have x6 : Rel Γ N ((G'.cP [{ target:=.collected D,args:=#[] }]).setW w') E s' { a with defers:={ target:=.collected D,args:=#[] } :: a.defers } w' :=
    ⟨(hs.cP).setW,hr.size,fun i=>au.sub (Gh.gA _ _) _ _ (au.cP _ _ (au.mono hle _ _ (hr.tmps i))),by rw [ha]; rfl⟩
  refine h.wide x6 ?_;intro e G2 E2 s2 a2 w2 g1 g2 g3;have O9 : dt w' w2:=by
    have:=g2.st.others;rwa [show G2.w0 = w' from g1.w0] at this
  have Le : a2.defers = [{ target:=.collected D,args:=#[] }]:=g2.defers.trans g1.df;have hb:=aN.sI (G:=G'.cP [{ target:=.collected D,args:=#[] }]) hs.cP g1 g2.st;refine hq e (((G2.setW G'.w0)).cP G'.df) E2 s2 a2 w2 ?_ (O9 _ _ hk (by intros; simp)) Le ?_ g3
  · refine hle.trans ?_;exact ⟨hb.2.ro,hb.2.obj,hb.2.tok,hb.2.B,hb.2.w0,rfl⟩
  · refine ⟨?_,g2.size,fun i=>?_,rfl⟩
    · exact hb.1.cP (d:=a2.defers)
    · exact au.sub (G:=G2) (G':=((G2.setW G'.w0).cP G'.df).cP a2.defers) ⟨rfl,rfl,rfl,rfl⟩ _ _ (g2.tmps i)
end Go.AM
namespace Go.AM
open Go Go.RowKit
variable {rd : Option Nat} {P : Program} {Γ : Nat→List AV} {G : Gh} {s : AS} {w : World}
theorem wU {n : Nat} {T xT e : TypeId} (hT : P.underlying T = some (.slice e)) {k : IntKind} (hx : P.underlying xT = some (.int k)) {z : List AV} (he : pq P e z)
    (h0 : n≠0) (dS : n * P.bytesOf e≤2 ^ 46) (Ep : n≤2 ^ 46) (ty : TypeId) :
    ∃ (cap : Nat) (us : List Value),n≤cap∧us.length = cap * P.cellsOf e ∧
      (Builtin.append_ #[T,xT] ty #[.slice none 0 0,.int .i64 n]).run P w = .ok (.slice (some ⟨w.heap.size,0,none⟩) n cap) (w.drew.alloc (.cells us.toArray e)):=by
  obtain ⟨hz,eI,sy⟩:=he;obtain ⟨zv,Lb,xN⟩:=dE hz;obtain ⟨i,hi⟩:=ff eI;have hb : P.bytesOf e = i.bytes:=(by simp [Program.bytesOf,hi]);have Iv : ∀ w',(typeInfo e).run P w' = .ok i w':=(fun w'=>by simp [typeInfo,hi]);have uw:=nextslicecap_le (need:=n) (old:=0) (by omega);have nI : ¬ (2 ^ 48 < Builtin.nextslicecap n 0 * i.bytes):=by
    rw [hb] at dS;have h2 : Builtin.nextslicecap n 0 * i.bytes≤2 * n * i.bytes:=Nat.mul_le_mul_right _ uw;rw [Nat.mul_assoc] at h2;omega
  have V6 : zv.cells.size = P.cellsOf e:=by
    rw [xN] at sy;simpa using sy
  have hw : IntKind.i64.wrap (n : Int) = n:=IntWalk.i64_in _ (by omega);have Ap : ¬ ((n : Int) < 0):=(by omega);have dp : ¬ (n * P.cellsOf e = 0):=by
    intro h;rcases Nat.mul_eq_zero.1 h with h | h
    · exact h0 h
    · exact eI h
  have JM : ¬ ((281474976710656 : Int) < (n : Int) * (i.bytes : Int)):=by
    rw [hb] at dS;have : ((n * i.bytes : Nat) : Int)≤((2 ^ 46 : Nat) : Int):=Int.ofNat_le.2 dS;rw [Int.natCast_mul] at this;omega
  have nH : ¬ (9223372036854775807 < (n : Int)):=(by omega);refine ⟨_,(Builtin.zeroCells zv.cells n ++ Builtin.zeroCells zv.cells ((Question.appendCap n 0 e).cut (w.tape w.drawn (.appendCap n 0 e)) - n)).toList,fg n 0 e (w.tape w.drawn (.appendCap n 0 e)),?_,?_⟩
  · have:=fg n 0 e (w.tape w.drawn (.appendCap n 0 e));simp only [Builtin.zeroCells,Array.toList_append,List.length_append,Array.length_toList,V6];simp [V6];rw [← Nat.add_mul];congr 1;omega
  · have hf : (Question.appendCap n 0 e).forced = false:=rfl;have hgt : ¬ (n≤0):=(by omega);simp [Builtin.append_,run_underlying hT,aQ eI,run_underlying hx,asInt,asIntOf,hw,Ap,Iv,JM,nH,nI,hf,Lb,newRow,dp,h0,Builtin.firstCells];congr 2;apply Array.ext';simp
theorem CT {N : Nat} {E : Env} {Q : Exit→Env→AS→Prop} {id : Nat} (L1 L2 L3 : List Oper) {oa os : Oper} {T xT e ty : TypeId} {k : IntKind} {x y h : Operand} {d1 d2 : Tmp} {z : List AV}
    (hoa : oa.op = .call { callee:=.builtin .append,args:=#[x,y],argTypes:=#[T,xT] }) (V7 : oa.guard = none) (V8 : oa.dst = some d1) (OO : d1 < N)
    (hos : os.op = .slice ty (.tmp d1) none (some h) none) (hgs : os.guard = none) (Rl : os.dst = some d2) (Le : d2 < N)
    (hT : P.underlying T = some (.slice e)) (hty : P.underlying ty = some (.slice e)) (hx : P.underlying xT = some (.int k)) (he : pq P e z) (xt : P.cellsOf e = 1)
    (hh : AY P Γ N (L1 ++ oa :: (L2 ++ os :: L3)).toArray L1 (fun E1 s1=>aI Γ E1 x = .v (.slice none 0 0)∧∃ n : Nat,aI Γ E1 y = .v (.int .i64 n)∧n≠0∧n * P.bytesOf e≤2 ^ 46∧n≤2 ^ 46 ∧
      ∀ t v,s1.own t = none→AY P Γ N (L1 ++ oa :: (L2 ++ os :: L3)).toArray L2 (fun E2 s2=>E2 d1 = .v v∧aI Γ E2 h = .v (.int .i64 0) ∧
        AY P Γ N (L1 ++ oa :: (L2 ++ os :: L3)).toArray L3 (fun E' s'=>Q .normal E' s') (aF E2 d2 (.sl 1 0 [] (.own t 0))) s2) (aF E1 d1 (.v v)) (s1.bo t 0)) E s) :
    ck P Γ N (.region id (L1 ++ oa :: (L2 ++ os :: L3)).toArray false) Q E s:=by
  generalize xcG : (L1 ++ oa :: (L2 ++ os :: L3)).toArray = ops at hh ⊢;rw [ay] at hh;intro G a w hr;refine wpIn_region ?_;have cu : ∀ ops : Array Oper,(List.range ops.size).map (ops[·]?) = ops.toList.map some:=by
    intro ops;apply List.ext_getElem?;intro i;simp only [List.getElem?_map];by_cases hi : i < ops.size
    · simp [hi]
    · simp [hi]
  have pH:=cu ops;generalize hI : List.range ops.size = I at pH;have gk : ops.toList = L1 ++ oa :: (L2 ++ os :: L3):=(by rw [← xcG]);rw [gk] at pH;have LU : ∀ (I : List Nat) (A : List Oper) (o : Oper) (B : List Oper),I.map (ops[·]?) = (A ++ o :: B).map some→∃ I1 i I2,I = I1 ++ i :: I2∧I1.map (ops[·]?) = A.map some∧ops[i]? = some o∧I2.map (ops[·]?) = B.map some:=by
    intro I A o B hm;have h1 : (I.take A.length).map (ops[·]?) = A.map some:=(by rw [List.map_take,hm]; simp);have h2 : (I.drop A.length).map (ops[·]?) = (o :: B).map some:=(by rw [List.map_drop,hm]; simp);generalize V9 : I.drop A.length = J at h2;cases J with
    | nil=>simp at h2
    | cons i I2 =>
      simp only [List.map_cons,List.cons.injEq] at h2;exact ⟨I.take A.length,i,I2,by rw [← V9,List.take_append_drop],h1,h2.1,h2.2⟩
  obtain ⟨I1,i1,J,rfl,m1,mo1,mJ⟩:=LU I L1 oa (L2 ++ os :: L3) pH;obtain ⟨I2,i2,I3,rfl,m2,mo2,m3⟩:=LU J L2 os L3 mJ;refine dZ L1 I1 (i1 :: (I2 ++ i2 :: I3)) m1 (dK _ hh) hr ?_;rintro G1 E1 s1 a1 w1 ig ra ⟨⟨hxe,n,hye,hn0,hnb,xcH,hk⟩,CQ⟩;rw [wpOpsIn_cons];simp only [wpOpIn,mo1];rw [if_pos (ee V7)];have pd:=ra.eval x;rw [hxe] at pd;have sM:=ra.eval y;rw [hye] at sM;simp only [au] at pd sM;obtain ⟨cap,us,ib,kK,ll⟩:=wU (P:=P) (w:=w1) hT hx he hn0 hnb xcH oa.type;have hto : s1.own G1.nt = none:=ra.st.gP (Nat.le_refl _);obtain ⟨G2,g1,g2,g3,g4,g5,g6⟩:=ra.st.drew.pn [] us e G1.nt 0 (fun e' _=>ra.st.cb _ (Nat.le_refl _) e');simp only [List.nil_append,List.length_nil] at g2 g4;rw [kK,xt,Nat.mul_one] at g4;have hk:=hk G1.nt (.slice (some ⟨w1.heap.size,0,none⟩) n cap) hto;have Wb : (execOp a1.eval oa).run P w1 = .ok (.value (.slice (some ⟨w1.heap.size,0,none⟩) n cap)) (w1.drew.alloc (.cells us.toArray e)):=by
    rw [dc hoa];simp [builtin,pd,sM,ll]
  refine ⟨fun _ _=>trivial,?_⟩;rw [Oper.semAt_eq _ _ _ (VY Wb)];rw [Wb];simp only [Oper.uponIn];have tj:=ra.put (dst:=oa.dst) g1 g2 (r:=.v (.slice (some ⟨w1.heap.size,0,none⟩) n cap)) (v:=.slice (some ⟨w1.heap.size,0,none⟩) n cap) (by simp [au]) (by intro d hd; rw [V8] at hd; cases hd; exact OO);rw [V8] at tj ⊢;simp only [bg] at tj;refine dZ L2 I2 (i2 :: I3) m2 (dK _ hk) tj ?_;rintro G3 E3 s3 a3 w3 Ru rb ⟨⟨hd,hhe,Wc⟩,Tk⟩;rw [wpOpsIn_cons];simp only [wpOpIn,mo2];rw [if_pos (ee hgs)];have Rw:=rb.tmps d1;rw [hd] at Rw;have hhr:=rb.eval h;rw [hhe] at hhr;simp only [au] at Rw hhr;have hb:=cU (P:=P) (isSlice:=true) (len:=n) (cap:=cap) (l:=0) (h:=0) (lo:=none) (hi:=some (.int .i64 0)) (.inl ⟨rfl,rfl⟩) (.inr ⟨_,rfl⟩) (Int.le_refl 0) (Int.le_refl 0) (by omega) w3;have Gp : P.cellsOf e≠0:=he.2.1;have Wd : (Instr.sliceAt ty (.slice (some ⟨w1.heap.size,0,none⟩) n cap) none (some (.int .i64 0)) none).run P w3 = .ok (.slice (some ⟨w1.heap.size,0,none⟩) 0 cap) w3:=by
    rw [fh hty];simp [Instr.slice,run_underlying hty,hb,aQ Gp,Addr.add]
  have hex : (execOp a3.eval os).run P w3 = .ok (.value (.slice (some ⟨w1.heap.size,0,none⟩) 0 cap)) w3:=by
    obtain ⟨dst,op,type,pos,after,guard⟩:=os;simp only at hos;subst hos;have e1 : a3.eval (.tmp d1) = .slice (some ⟨w1.heap.size,0,none⟩) n cap:=Rw;simp [execOp,e1,hhr,Wd]
  refine ⟨fun _ _=>trivial,?_⟩;rw [Oper.semAt_eq _ _ _ (VY hex)];rw [hex];simp only [Oper.uponIn];have D9:=rb.put (dst:=os.dst) (Gh.le.refl G3) rb.st (r:=.sl 1 0 [] (.own G1.nt 0)) (v:=.slice (some ⟨w1.heap.size,0,none⟩) 0 cap) (by
    simp only [au];refine .inl ⟨w1.heap.size,0,cap,[],rfl,by simp,by omega,by simp [ar],fun j u hj=>by simp at hj,?_⟩;simp only [eA,Nat.zero_mul,Nat.add_zero,Nat.zero_add,Nat.mul_one];have:=Ru.tok _ _ _ g4;simpa using this) (by intro d LN; rw [Rl] at LN; cases LN; exact Le)
  rw [Rl] at D9 ⊢;simp only [bg] at D9;refine lr L3 I3 m3 (dK _ Wc) D9 ?_;rintro G5 E5 s5 a5 w5 hG5 Px ⟨hk5,xcJ⟩;refine ⟨G5,E5,s5,ig.trans (g1.trans (Ru.trans hG5)),Px,hk5,?_⟩;intro i hi;have mem : ∀ L : List Oper,i ∈ bU L↔∃ o ∈ L,o.dst = some i:=(fun L=>by simp [bU,List.mem_filterMap]);simp only [writes] at hi;rw [gk] at hi;have bc : ¬ ∃ o' ∈ L1 ++ oa :: (L2 ++ os :: L3),o'.dst = some i:=fun hm=>hi ((mem _).2 hm);have q1 : i ∉ bU L1:=fun hm=>bc (by obtain ⟨o,k1,k2⟩:=(mem _).1 hm; exact ⟨o,by simp [k1],k2⟩);have q2 : i ∉ bU L2:=fun hm=>bc (by obtain ⟨o,k1,k2⟩:=(mem _).1 hm; exact ⟨o,by simp [k1],k2⟩);have q3 : i ∉ bU L3:=fun hm=>bc (by obtain ⟨o,k1,k2⟩:=(mem _).1 hm; exact ⟨o,by simp [k1],k2⟩);have q4 : i≠d1:=fun e=>bc ⟨oa,by simp,by rw [e]; exact V8⟩;have q5 : i≠d2:=fun e=>bc ⟨os,by simp,by rw [e]; exact Rl⟩;rw [xcJ i q3,fu _ _ q5,Tk i q2,fu _ _ q4,CQ i q1]
theorem yy {N : Nat} {E : Env} {Q : Exit→Env→AS→Prop} {id : Nat} {o1 o2 o3 o4 o5 oa o7 o8 os sC : Oper} {T xT e ty : TypeId} {k : IntKind} {x y h : Operand} {d1 d2 : Tmp} {z : List AV}
    (hoa : oa.op = .call { callee:=.builtin .append,args:=#[x,y],argTypes:=#[T,xT] }) (V7 : oa.guard = none) (V8 : oa.dst = some d1) (OO : d1 < N)
    (hos : os.op = .slice ty (.tmp d1) none (some h) none) (hgs : os.guard = none) (Rl : os.dst = some d2) (Le : d2 < N)
    (hT : P.underlying T = some (.slice e)) (hty : P.underlying ty = some (.slice e)) (hx : P.underlying xT = some (.int k)) (he : pq P e z) (xt : P.cellsOf e = 1)
    (hh : ∀ ops : Array Oper,AY P Γ N ops [o1,o2,o3,o4,o5] (fun E1 s1=>aI Γ E1 x = .v (.slice none 0 0)∧∃ n : Nat,aI Γ E1 y = .v (.int .i64 n)∧n≠0∧n * P.bytesOf e≤2 ^ 46∧n≤2 ^ 46 ∧
      ∀ t v,s1.own t = none→AY P Γ N ops [o7,o8] (fun E2 s2=>E2 d1 = .v v∧aI Γ E2 h = .v (.int .i64 0) ∧
        AY P Γ N ops [sC] (fun E' s'=>Q .normal E' s') (aF E2 d2 (.sl 1 0 [] (.own t 0))) s2) (aF E1 d1 (.v v)) (s1.bo t 0)) E s) :
    ck P Γ N (.region id #[o1,o2,o3,o4,o5,oa,o7,o8,os,sC] false) Q E s :=
  CT [o1,o2,o3,o4,o5] [o7,o8] [sC] hoa V7 V8 OO hos hgs Rl Le hT hty hx he xt (hh _)
def dX (s : AS) (l : List UInt8) (r : AV) (s' : AS) : Prop :=
  s.le s'∧((l = []∧r = .v (.slice none 0 0))∨∃ t e,s.own t = none∧s'.own t = some e∧r = .sl 1 l.length (l.map ai) (.own t e))
theorem dX.nil (s : AS) : dX s [] (.v (.slice none 0 0)) s:=⟨AS.le.refl s,.inl ⟨rfl,rfl⟩⟩
theorem dX.aA {s s' : AS} {l : List UInt8} {r : AV} (h : dX s l r s') : r.aA (aj l .any):=by
  rcases h.2 with ⟨rfl,rfl⟩ | ⟨t,e,_,_,rfl⟩
  · exact AV.aJ
  · exact AV.bJ
theorem Ax (l : List UInt8) : (l.map ai).all AV.one = true:=by
  rw [List.all_eq_true];intro x hx;obtain ⟨n,_,rfl⟩:=List.mem_map.1 hx;rfl
theorem dm {e : TypeId} {K : AV→AS→Prop} {s s1 : AS} {l ds : List UInt8} {r : AV} {m : Nat} {cs : List AV} (h : dX s l r s1) (hm : m = ds.length) (Gp : cs = ds.map ai) (he : P.cellsOf e = 1) (hb : P.bytesOf e = 1) (hlen : l.length + ds.length≤2 ^ 45)
    (hk : ∀ r2 s2,dX s (l ++ ds) r2 s2→K r2 s2) : fV P e r m cs s1 K:=by
  subst hm Gp;rcases h.2 with ⟨rfl,rfl⟩ | ⟨t,g,h1,h2,rfl⟩
  · rw [pB];split
    · rename_i h0;have : ds = []:=List.eq_nil_of_length_eq_zero h0;subst this;exact hk _ _ h
    · rename_i h0;rw [he,hb];simp only [List.length_nil,Nat.zero_add] at hlen;refine ⟨by omega,by omega,fun t ht=>hk _ _ ?_⟩;refine ⟨AS.bG h.1 ?_ 0,.inr ⟨t,0,?_,AS.js _ _ _,by simp⟩⟩;all_goals
        cases hs : s.own t with
        | none=>rfl
        | some g=>rw [h.1.own t g hs] at ht; cases ht
  · rw [pC];split
    · rename_i h0;have : ds = []:=List.eq_nil_of_length_eq_zero h0;subst this;exact hk _ _ (by simpa using h)
    · rename_i h0;rw [he,hb];refine ⟨rfl,by omega,by omega,Ax ds,h2,hk _ _ ?_⟩;exact ⟨AS.bG h.1 h1 _,.inr ⟨t,g + 1,h1,AS.js _ _ _,by simp⟩⟩
end Go.AM
namespace Go.AM
open Go Go.RowKit
variable {P : Program} {Γ : Nat→List AV} {G : Gh} {s : AS} {w : World} {N : Nat} {E : Env}
theorem CU {ρ : Operand→Value} {o : Oper} {f x : Operand} {ts : Array TypeId} {l : Nat} (ho : o.op = .call { callee:=.value f,args:=#[x],argTypes:=ts }) (hf : ρ f = .func (.yield l) #[] #[]) :
    (execOp ρ o).run P w = (Instr.yield l #[ρ x]).run P w:=by
  obtain ⟨dst,op,type,pos,after,guard⟩:=o;simp only at ho;subst ho;simp [execOp,resolve,hf,Deferred.ofValue,invoke]
theorem BI (ops : Array Oper) : (List.range ops.size).map (ops[·]?) = ops.toList.map some:=by
  apply List.ext_getElem?;intro i;simp only [List.getElem?_map];by_cases hi : i < ops.size
  · simp [hi]
  · simp [hi]
theorem BJ {ops : Array Oper} {I : List Nat} {A B : List Oper} {o : Oper} (hm : I.map (ops[·]?) = (A ++ o :: B).map some) : ∃ I1 i I2,I = I1 ++ i :: I2∧I1.map (ops[·]?) = A.map some∧ops[i]? = some o∧I2.map (ops[·]?) = B.map some:=by
  have h1 : (I.take A.length).map (ops[·]?) = A.map some:=(by rw [List.map_take,hm]; simp);have h2 : (I.drop A.length).map (ops[·]?) = (o :: B).map some:=(by rw [List.map_drop,hm]; simp);generalize V9 : I.drop A.length = J at h2;cases J with
  | nil=>simp at h2
  | cons i I2 =>
    simp only [List.map_cons,List.cons.injEq] at h2;exact ⟨I.take A.length,i,I2,by rw [← V9,List.take_append_drop],h1,h2.1,h2.2⟩
theorem yz {l id : Nat} (L1 L2 : List Oper) {o : Oper} {f x : Operand} {ts : Array TypeId} {a : Act} {Q : Exit→Act→World→Prop} {K1 : Env→AS→Prop} {K2 : Env→AS→Prop}
    (ho : o.op = .call { callee:=.value f,args:=#[x],argTypes:=ts }) (hg : o.guard = none) (hd : ∀ d,o.dst = some d→d < N)
    (h1 : AY P Γ N (L1 ++ o :: L2).toArray L1 (fun E1 s1=>aI Γ E1 f = .v (.func (.yield l) #[] #[])∧K1 E1 s1) E s) (hr : Rel Γ N G E s a w)
    (hy : ∀ G1 E1 s1 a1 w1,G.le G1→Rel Γ N G1 E1 s1 a1 w1→K1 E1 s1→YieldAt Fence.wide 0 P l #[a1.eval x] w1 fun e W'=>e = .returned (.bool true)∧∃ G2 s2,G1.le G2∧aN Γ G2 s2 W' ∧
      AY P Γ N (L1 ++ o :: L2).toArray L2 K2 (bg E1 o.dst (.v (.bool true))) s2)
    (hq : ∀ G' E' s' a' w',G.le G'→Rel Γ N G' E' s' a' w'→K2 E' s'→Q .normal a' w') : (Code.region id (L1 ++ o :: L2).toArray false).wpIn Fence.wide 0 P Q a w:=by
  rw [ay] at h1;refine wpIn_region ?_;have pH:=BI (L1 ++ o :: L2).toArray;generalize List.range (L1 ++ o :: L2).toArray.size = I at pH ⊢;obtain ⟨I1,i,I2,rfl,m1,mo,m2⟩:=BJ (A:=L1) (B:=L2) (o:=o) pH;refine iz (l:=none) L1 I1 (i :: I2) m1 h1 hr ?_;rintro G1 E1 s1 a1 w1 ig ra ⟨hf,Lf⟩;have Ea:=ra.eval f;rw [hf] at Ea;simp only [au] at Ea;obtain ⟨fn,tmps,assign,body,q1,q2⟩:=hy G1 E1 s1 a1 w1 ig ra Lf;simp only [wpOpsIn,mo];rw [if_pos (ee hg)];refine ⟨fun _ _=>trivial,?_⟩;rw [Oper.semAt_eq _ _ _ (by intro c; rw [ho]; simp),CU ho Ea,q1];rw [Oper.uponIn_round];refine ⟨fun e=>(by cases e),RoundIn.mono (F:=Fence.wide) q2 ?_⟩;rintro e W' ⟨rfl,G2,s2,g1,g2,g3⟩;rw [ay] at g3;have tj : Rel Γ N G2 E1 s2 a1 W':=⟨g2,ra.size,fun i=>au.mono g1 _ _ (ra.tmps i),ra.defers.trans g1.df.symm⟩;have rb:=tj.put (dst:=o.dst) (Gh.le.refl G2) g2 (r:=.v (.bool true)) (v:=.bool true) (by simp [au]) hd;exact nR (l:=none) L2 I2 m2 g3 rb fun G3 E3 s3 a3 w3 h3 rb hk=>hq G3 E3 s3 a3 w3 (ig.trans (g1.trans h3)) rb hk
theorem uL {l id : Nat} {o1 o2 o3 o4 o5 o6 o7 o8 o9 sC o yA : Oper} {f x : Operand} {ts : Array TypeId} {a : Act} {Q : Exit→Act→World→Prop} (K1 K2 : Env→AS→Prop)
    (ho : o.op = .call { callee:=.value f,args:=#[x],argTypes:=ts }) (hg : o.guard = none) (hd : ∀ d,o.dst = some d→d < N)
    (h1 : ∀ ops,AY P Γ N ops [o1,o2,o3,o4,o5,o6,o7,o8,o9,sC] (fun E1 s1=>aI Γ E1 f = .v (.func (.yield l) #[] #[])∧K1 E1 s1) E s) (hr : Rel Γ N G E s a w)
    (hy : ∀ ops G1 E1 s1 a1 w1,G.le G1→Rel Γ N G1 E1 s1 a1 w1→K1 E1 s1→YieldAt Fence.wide 0 P l #[a1.eval x] w1 fun e W'=>e = .returned (.bool true)∧∃ G2 s2,G1.le G2∧aN Γ G2 s2 W' ∧
      AY P Γ N ops [yA] K2 (bg E1 o.dst (.v (.bool true))) s2)
    (hq : ∀ G' E' s' a' w',G.le G'→Rel Γ N G' E' s' a' w'→K2 E' s'→Q .normal a' w') : (Code.region id #[o1,o2,o3,o4,o5,o6,o7,o8,o9,sC,o,yA] false).wpIn Fence.wide 0 P Q a w :=
  yz (K1:=K1) (K2:=K2) [o1,o2,o3,o4,o5,o6,o7,o8,o9,sC] [yA] ho hg hd (h1 _) hr (hy _) hq
theorem Rel.entry {args : List AV} {vs : List Value} (hs : aN Γ G s w) (hv : ar G args vs) (hn : args.length≤N) (uK : G.df = []) :
    Rel Γ N G (br args) s { tmps:=vs.toArray ++ Array.replicate (N - vs.toArray.size) undef,defers:=[] } w:=by
  have Rk:=hv.length;refine ⟨hs,by simp; omega,fun i=>?_,uK.symm⟩;simp only [br];by_cases hi : i < args.length
  · obtain ⟨u,h1,h2⟩:=hv.getD i hi;have bc : i < vs.length:=(by omega);rw [Array.getD_eq_getD_getElem?,Array.getElem?_append_left (by simpa using bc)];simp only [List.getElem?_toArray,h1,Option.getD_some];exact h2
  · have e1 : args.getD i (.v undef) = .v undef:=(by simp [List.getD,List.getElem?_eq_none (Nat.le_of_not_lt hi)]);rw [e1,Array.getD_eq_getD_getElem?,Array.getElem?_append_right (by simp; omega)];simp only [au];cases hh : (Array.replicate (N - vs.toArray.size) undef)[i - vs.toArray.size]? with
    | none=>rfl
    | some u =>
      rw [Array.getElem?_replicate] at hh;split at hh
      · cases hh; rfl
      · cases hh
end Go.AM
namespace Go.AM
open Go Go.RowKit
variable {P : Program} {Γ : Nat→List AV} {N : Nat}
theorem fm.trans {E E' gB : Env} {s s' fD : AS} (h : fm Γ N E s E' s') (k : fm Γ N E' s' gB fD) : fm Γ N E s gB fD:=by
  intro G a w hr;obtain ⟨G1,h1,h2⟩:=h G a w hr;obtain ⟨G2,k1,k2⟩:=k G1 a w h2;exact ⟨G2,h1.trans k1,k2⟩
theorem fX {E : Env} {s : AS} {Q : Exit→Env→AS→Prop} (d1 d2 : Nat) {id : Nat} {L : List Oper} {y : Code} (OO : d1 ∈ bU L) (Le : d2 ∈ bU L) (dp : d1≠d2)
    (h : ∀ K : Env→AS→Prop,(∀ E s o1 o2 Gt Gr,E d1 = .ptr o1 0→E d2 = .ptr o2 0→s.aq o1 = none→(s.set o1 Gt).aq o2 = none→ck P Γ N y Q (aF (aF E d2 (.dq Gr)) d1 (.dq Gt)) s→K E ((s.set o1 Gt).set o2 Gr))→AY P Γ N L.toArray L K E s) :
    ck P Γ N (.seq (.region id L.toArray false) y) Q E s:=by
  refine jq (mY ?_);have:=h (fun E' s'=>∃ gB fD,fm Γ N E' s' gB fD∧(∀ i,i ∉ bU L→gB i = E' i)∧az (ck P Γ N y Q) Q .normal gB fD) ?_
  · rw [ay] at this;simpa using this
  · intro E' s' o1 o2 Gt Gr h1 h2 h3 h4 h5;refine ⟨aF (aF E' d2 (.dq Gr)) d1 (.dq Gt),s',?_,?_,h5⟩
    · have g1:=fm.jf (Γ:=Γ) (N:=N) (E:=E') (s:=(s'.set o1 Gt).set o2 Gr) (d:=d2) h2 (AS.aa _ _ _);rw [AS.drop_set h4] at g1;have g2:=fm.jf (Γ:=Γ) (N:=N) (E:=aF E' d2 (.dq Gr)) (s:=s'.set o1 Gt) (d:=d1) (by rw [fu _ _ dp]; exact h1) (AS.aa _ _ _);rw [AS.drop_set h3] at g2;exact g1.trans g2
    · intro i hi;rw [fu _ _ (fun e=>hi (by rw [e]; exact OO)),fu _ _ (fun e=>hi (by rw [e]; exact Le))]
theorem AS.LV {s : AS} {o : Nat} {cs : List AV} (h : s.aq o = some cs) : s.set o cs = s:=by
  cases s with
  | mk aq own =>
    simp only [AS.set,AS.mk.injEq,and_true];funext i;simp only [aF];split
    · rename_i e; subst e; exact h.symm
    · rfl
end Go.AM
namespace Go.AM
open Go Go.RowKit
variable {P : Program} {Γ : Nat→List AV} {G : Gh} {s : AS} {w : World}
theorem CV {ρ : Operand→AV} {ρ' : Operand→Value} {o : Oper} {src dst e : TypeId} {x : Operand} {l : List UInt8} (ho : o.op = .convert src dst x) (Gj : P.underlying src = some .string) (Gk : P.underlying dst = some (.slice e)) (he : P.underlying e = some (.int .u8))
    (hx : ρ x = .v (.string ⟨l.toArray⟩)) (hρ : ∀ x,au G (ρ x) (ρ' x)) (hs : aN Γ G s w) :
    du P Γ G (fun r s'=>dX s l r s') ((execOp ρ' o).run P w):=by
  have pd:=hρ x;rw [hx] at pd;simp only [au] at pd;obtain ⟨cap,hle,ll⟩:=mg (P:=P) e (⟨l.toArray⟩ : ByteArray) w;have eI : (⟨l.toArray⟩ : ByteArray).size = l.length:=rfl;have Gm : (⟨l.toArray⟩ : ByteArray).data.toList = l:=rfl;rw [eI] at hle ll;rw [Gm] at ll;have hto : s.own G.nt = none:=hs.gP (Nat.le_refl _);obtain ⟨G',h1,h2,h3,h4⟩:=hs.stringToBytes e l (cap - l.length) cap (by omega) G.nt 0 (fun e' _=>hs.cb _ (Nat.le_refl _) e');have hr : (convert src dst (ρ' x)).run P w = .ok (.slice (some ⟨w.heap.size,0,none⟩) l.length cap) ((w.drew.alloc (.cells (dB l ++ gh (cap - l.length)).toArray e)).freeze ⟨w.heap.size,cap,none⟩ 1):=by
    rw [pd,← ll];simp [convert,run_underlying Gj,run_underlying Gk,run_underlying he]
  refine (show execOp ρ' o = (do pure (.value (← convert src dst (ρ' x)))) by
    obtain ⟨d,op,type,pos,after,guard⟩:=o;simp only at ho;subst ho;rfl) ▸ dF ⟨G',_,_,.sl 1 l.length (l.map ai) (.own G.nt 0),s.bo G.nt 0,hr,h1,h2,?_,AS.bG (AS.le.refl s) hto 0,.inr ⟨G.nt,0,hto,AS.js _ _ _,rfl⟩⟩
  simp only [au];exact .inl ⟨w.heap.size,0,cap,dB l,rfl,by simp,hle,mf _,h3,by simpa [eA] using h4⟩
theorem CW {N : Nat} {E : Env} {Q : Exit→Env→AS→Prop} {id : Nat} {L2 : List Oper} {o1 o : Oper} {code : Code} (hg : o.guard = none) (hd : ∀ d,o.dst = some d→d < N)
    (h : ∀ ops,AY P Γ N ops [o1] (fun E1 s1=>∃ K1 : AV→AS→Prop,(∀ G a w,Rel Γ N G E1 s1 a w→du P Γ G K1 ((execOp a.eval o).run P w)) ∧
      ∀ r s2,K1 r s2→AY P Γ N ops L2 (fun E' s'=>ck P Γ N code Q E' s') (bg E1 o.dst r) s2) E s) :
    ck P Γ N (.seq (.region id (o1 :: o :: L2).toArray false) code) Q E s :=
  pG [o1] L2 hg hd (h _)
end Go.AM
namespace Go.AM
open Go Go.RowKit
theorem AV.gF {sz n : Nat} {cs ds : List AV} {sp : Sp} (h : eL.aA cs ds) : (AV.sl sz n cs sp).aA (.sl sz n ds sp):=by
  intro G v hv;simp only [au] at hv ⊢;have qL : cs = []→ds = []:=fun e=>by
    have:=h G [] (by rw [e]; simp [ar]);cases ds with
    | nil=>rfl
    | cons d ds=>simp only [ar] at this; obtain ⟨u,us,h1,_⟩:=this; cases h1
  rcases hv with ⟨b,off,cap,vs,h1,h2,h3,h4,h5,h6⟩ | ⟨h1,h2,h3⟩ | ⟨h1,h2,h3⟩
  · refine .inl ⟨b,off,cap,vs,h1,?_,h3,h G vs h4,h5,h6⟩;have e1:=h4.length;have e2:=(h G vs h4).length;omega
  · exact .inr (.inl ⟨h1,qL h2,h3⟩)
  · exact .inr (.inr ⟨h1,qL h2,h3⟩)
end Go.AM
namespace Go.AM
open Go Go.RowKit
variable {rd : Option Nat} {P : Program} {Γ : Nat→List AV} {N : Nat}
def Lg (P : Program) (Γ : Nat→List AV) (N : Nat) (c : Code) (Q : Exit→Env→AS→Prop) (E : Env) (s : AS) : Prop :=
  ∀ (G : Gh) (a : Act) (w : World),Rel Γ N G E s a w→∀ {rd : Option Nat},c.wpIn (sO rd) 0 P (fun e a' w'=>∃ G' E' s',G.le G'∧Rel Γ N G' E' s' a' w'∧Q e E' s') a w
section
variable {E : Env} {s : AS} {Q : Exit→Env→AS→Prop}
theorem ck.g {c : Code} (h : ck P Γ N c Q E s) : Lg P Γ N c Q E s:=fun G a w hr=>wpIn_mono (h G a w hr) fun e a' w' ⟨G',E',s',h1,h2,h3,_⟩=>⟨G',E',s',h1,h2,h3⟩
theorem Py {x y : Code} (h : Lg P Γ N x (az (Lg P Γ N y Q) Q) E s) : Lg P Γ N (.seq x y) Q E s:=by
  intro G a w hr;refine wpIn_seq (wpIn_mono (h G a w hr) ?_);rintro e a' w' ⟨G',E',s',h1,h2,h3⟩;cases e <;> simp only [Exit.then,az] at h3 ⊢;case normal =>
    refine wpIn_mono (h3 G' a' w' h2) ?_;rintro e xV ux ⟨sA,gB,fD,k1,k2,k3⟩;exact ⟨sA,gB,fD,h1.trans k1,k2,k3⟩
  all_goals exact ⟨G',E',s',h1,h2,h3⟩
theorem dv {x y : Code} (h : ∀ K : Env→AS→Prop,(∀ E s,Lg P Γ N y Q E s→K E s)→ck P Γ N x (az K Q) E s) : Lg P Γ N (.seq x y) Q E s :=
  Py (h _ fun _ _ h=>h).g
theorem BK {c : Code} {E' : Env} {s' : AS} (g : fm Γ N E s E' s') (h : Lg P Γ N c Q E' s') : Lg P Γ N c Q E s:=by
  intro G a w hr;obtain ⟨G1,k1,k2⟩:=g G a w hr;exact wpIn_mono (h G1 a w k2) fun e a' w' ⟨G',E',s',h1,h2,h3⟩=>⟨G',E',s',k1.trans h1,h2,h3⟩
end
theorem J0 {f : FuncId} {fn : Func} {c : Code} {args : List AV} {b7 : AV→AS→Prop} {s : AS} (hf : P.funcs[f]? = some fn) (hb : fn.body = some c) (hn : args.length≤fn.ntmps)
    (h : Lg P Γ fn.ntmps c (cn P fn.results.toList b7) (br args) s) : ah P Γ f args s b7:=by
  intro G w vs hs hv;have Rk:=hv.length;refine calls_of_wp hf hb ?_;have x6 : Rel Γ fn.ntmps (G.cP []) (br args) s { tmps:=vs.toArray ++ Array.replicate (fn.ntmps - vs.toArray.size) undef,defers:=[] } w:=by
    refine ⟨hs.cP,by simp; omega,fun i=>?_,rfl⟩;simp only [br];by_cases hi : i < args.length
    · obtain ⟨u,h1,h2⟩:=hv.getD i hi;have bc : i < vs.length:=(by omega);rw [Array.getD_eq_getD_getElem?,Array.getElem?_append_left (by simpa using bc)];simp only [List.getElem?_toArray,h1,Option.getD_some];exact au.cP _ _ h2
    · have e1 : args.getD i (.v undef) = .v undef:=(by simp [List.getD,List.getElem?_eq_none (Nat.le_of_not_lt hi)]);rw [e1,Array.getD_eq_getD_getElem?,Array.getElem?_append_right (by simp; omega)];simp only [au];cases hh : (Array.replicate (fn.ntmps - vs.toArray.size) undef)[i - vs.toArray.size]? with
      | none=>rfl
      | some u =>
        rw [Array.getElem?_replicate] at hh;split at hh
        · cases hh; rfl
        · cases hh
  refine wpIn_wide.1 (wpIn_mono (F:=sO none) (n:=0) (h _ _ w x6) ?_);rintro e a' w' ⟨G',E',s',h1,h2,h3⟩;have fin : bz P fn.results.toList b7 E' s'→bodyPost P fn (fun e w'=>∃ G' r v s',e = .returned v∧G.le G'∧aN Γ G' s' w'∧au G' r v∧b7 r s') .normal a' w':=by
    intro hF;unfold bz at hF;split at hF
    · rename_i OI Gn;obtain ⟨r,s2,q1,q2,q3⟩:=hF;obtain ⟨zs,r1,r2⟩:=qn h2 Gn;refine ⟨h2.defers.trans h1.df,if h : zs.toArray.size = 1 then zs.toArray[0] else .tuple zs.toArray,?_,G'.cP G.df,r,_,s2,rfl,Gh.xH h1,(h2.st.mono q2).cP,au.cP _ _ (q1 _ _ (rL r2)),q3⟩;rw [lz,Array.mapM_eq_mapM_toList];simp only [Sem.run_bind,Sem.run_map,r1,Result.andThen_ok,Sem.run_pure]
    · exact hF.elim
  cases e <;> simp only [cn] at h3;case normal=>exact fin h3
  case ret=>exact fin h3
theorem vZ {f : FuncId} {fn : Func} {c : Code} {rs : Array ResultVar} {N : Nat} {args : List AV} {b7 : AV→AS→Prop} {s : AS} (hf : P.funcs[f]? = some fn) (hb : fn.body = some c) (hN : fn.ntmps = N) (OL : fn.results = rs) (hn : args.length≤N)
    (h : Lg P Γ N c (cn P rs.toList b7) (br args) s) : ah P Γ f args s b7:=by
  subst hN OL;exact J0 hf hb hn h
end Go.AM
namespace Go.AM
open Go Go.RowKit Go.ChangeShapes
variable {H : Type} {enc : TypeId × Value→H} {P : Program}
theorem tm {w : World} {base : Nat} {spare : Nat→Bool} {held : Bool} {fuel : Nat} {t e : TypeId} {d : DataW H} {p : List MemPlace} {v : Value} {ts : List TypeId} {ds : List (DataW H)} {j : Nat} (hu : P.underlying t = some (.slice e))
    (hz : (DataW.weightsEach P ts ds).all (·≤reachBytes) = true) (ht : ts[j]? = some t) (hd : ds[j]? = some d) (h : DataW.trod enc P w base spare held fuel t v.cells.toList = some (d,p)) (hb : 1≤P.bytesOf e) :
    ∀ a l c,v = .slice a l c→l≤reachBytes:=by
  rintro a l c rfl;simp only [Value.cells] at h;rcases DataW.trod_slice hu h with ⟨h1,_⟩ | ⟨a',len,cap,elems,rest,n,_,h1,h2,_,_,_,hlen,_⟩
  · simp only [List.cons.injEq,Value.slice.injEq,and_true] at h1;omega
  · simp only [List.cons.injEq,Value.slice.injEq,and_true] at h1;simp only [Prod.mk.injEq] at h2;obtain ⟨rfl,_⟩:=h2;have:=sized_slice hz ht hd hu;simp only [List.length_map] at this;have h3 : (elems.length + rest.length) * 1≤(elems.length + rest.length) * P.bytesOf e:=Nat.mul_le_mul_left _ hb;omega
end Go.AM
namespace Go.AM
open Go Go.RowKit
variable {P : Program} {Γ : Nat→List AV} {G : Gh} {s : AS} {w : World}
end Go.AM
namespace Go.AM
open Go Go.RowKit Go.ChangeShapes
variable {H : Type} {enc : TypeId × Value→H} {P : Program}
theorem re {w : World} {base : Nat} {spare : Nat→Bool} {held : Bool} {fuel : Nat} {t e : TypeId} {d : DataW H} {p : List MemPlace} {cs : List Value} {ts : List TypeId} {ds : List (DataW H)} {j : Nat} {fs : Array Field} (hu : P.underlying t = some (.struct fs))
    (hz : (DataW.weightsEach P ts ds).all (·≤reachBytes) = true) (ht : ts[j]? = some t) (hd : ds[j]? = some d) (h : DataW.trod enc P w base spare held fuel t cs = some (d,p)) (i : Nat) {f : Field} (hf : fs[i]? = some f)
    (he : P.underlying f.type = some (.slice e)) (hb : 1≤P.bytesOf e) (hc : P.cellsOf f.type = 1) : ∀ a l c,cs[f.offset]? = some (.slice a l c)→l≤reachBytes:=by
  intro a l c Gp;obtain ⟨xs,n,_,hx,hl,JT,cu⟩:=DataW.trod_struct hu h;simp only [Prod.mk.injEq] at hx;obtain ⟨rfl,_⟩:=hx;have h1:=cu i f hf;have hi : i < fs.size:=(Array.getElem?_eq_some_iff.1 hf).1;rw [hc,show (cs.drop f.offset).take 1 = [.slice a l c] from by
    obtain ⟨k1,k2⟩:=List.getElem?_eq_some_iff.1 Gp;rw [List.drop_eq_getElem_cons k1,k2]; rfl,List.getElem?_eq_getElem (by omega)] at h1
  have hw : (DataW.weightsEach P (fs.toList.map (·.type)) (xs.map (·.1))).all (·≤reachBytes) = true:=by
    rw [List.all_eq_true];intro m hm;exact List.all_eq_true.1 hz m (DataW.weights_mem_each ht hd m (by simp only [DataW.weights,hu]; exact hm))
  refine tm (v:=.slice a l c) (j:=i) (d:=(xs[i]'(by omega)).1) (p:=(xs[i]'(by omega)).2) he hw (by simp [List.getElem?_map,hf]) (by simp [List.getElem?_map,List.getElem?_eq_getElem (show i < xs.length by omega)]) (fuel:=n) (by simpa [Value.cells] using h1) hb a l c rfl
end Go.AM
namespace Go.AM
open Go Go.RowKit
theorem DF : type_of% (And.intro (And.intro (And.intro (And.intro (And.intro (And.intro @cE.eq_1 (And.intro @cE.eq_2 @cE.eq_3)) (And.intro @cE.eq_4 (And.intro @cE.eq_5 @cE.eq_6))) (And.intro
    (And.intro @cE.eq_7 (And.intro @cE.eq_8 @cE.eq_9)) (And.intro (And.intro @cE.eq_10 @cE.eq_11) (And.intro @cE.eq_12 @cE.eq_13)))) (And.intro (And.intro (And.intro
    @cE.eq_14 (And.intro @cE.eq_15 @cE.eq_16)) (And.intro @cE.eq_17 (And.intro @cE.eq_18 @cE.eq_19))) (And.intro (And.intro @ik.eq_1 (And.intro @ik.eq_2
    @ik.eq_3)) (And.intro (And.intro @ik.eq_4 @ik.eq_5) (And.intro @ik.eq_6 @ik.eq_7))))) (And.intro (And.intro (And.intro (And.intro @ik.eq_8 (And.intro @ik.eq_9
    @ik.eq_10)) (And.intro @ik.eq_11 (And.intro @ik.eq_12 @ik.eq_13))) (And.intro (And.intro @fA.eq_1 (And.intro @fA.eq_2 @fA.eq_3)) (And.intro (And.intro @fA.eq_4
    @fA.eq_5) (And.intro @fA.eq_6 @fA.eq_7)))) (And.intro (And.intro (And.intro @fA.eq_8 (And.intro @fA.eq_9 @fA.eq_10)) (And.intro @fA.eq_11 (And.intro @fA.eq_12
    @fA.eq_13))) (And.intro (And.intro @fA.eq_14 (And.intro @fA.eq_15 @fA.eq_16)) (And.intro (And.intro @vF.eq_1 @vF.eq_2) (And.intro @vF.eq_3 @xJ.eq_1))))))
    (And.intro (And.intro (And.intro (And.intro (And.intro @xJ.eq_2 (And.intro @xJ.eq_3 @xJ.eq_4)) (And.intro @mW.eq_1 (And.intro @mW.eq_2 @mW.eq_3))) (And.intro
    (And.intro @Gz.eq_1 (And.intro @Gz.eq_2 @Gz.eq_3)) (And.intro (And.intro @Gz.eq_4 @Gz.eq_5) (And.intro @Gz.eq_6 @dV.eq_1)))) (And.intro (And.intro (And.intro
    @dV.eq_2 (And.intro @dV.eq_3 @iO.eq_1)) (And.intro @iO.eq_2 (And.intro @iO.eq_3 @iO.eq_4))) (And.intro (And.intro @iO.eq_5 (And.intro @iP.eq_1
    @iP.eq_2)) (And.intro (And.intro @placeOf.eq_1 @bn.eq_1) (And.intro @bn.eq_2 @undef.eq_1))))) (And.intro (And.intro (And.intro (And.intro @oE.eq_1 (And.intro
    @apart.eq_1 @aI.eq_1)) (And.intro @aI.eq_2 (And.intro @aI.eq_3 @aI.eq_4))) (And.intro (And.intro @bg.eq_1 (And.intro @bg.eq_2 @aF.eq_1)) (And.intro (And.intro
    @br.eq_1 @nK.eq_1) (And.intro @az.eq_1 @az.eq_2)))) (And.intro (And.intro (And.intro @aw.eq_1 (And.intro @aw.eq_2 @kH.eq_1)) (And.intro @aj.eq_1
    (And.intro @Array.isEmpty.eq_1.{0} @List.isEmpty.eq_1.{0}))) (And.intro (And.intro @List.isEmpty.eq_2.{0} (And.intro @implies_true.{0} @implies_true.{1})) (And.intro (And.intro
    @forall_eq'.{1} @ne_eq.{1}) (And.intro @if_true.{1} @if_false.{1}))))))) :=
  (And.intro (And.intro (And.intro (And.intro (And.intro (And.intro @cE.eq_1 (And.intro @cE.eq_2 @cE.eq_3)) (And.intro @cE.eq_4 (And.intro @cE.eq_5 @cE.eq_6))) (And.intro
    (And.intro @cE.eq_7 (And.intro @cE.eq_8 @cE.eq_9)) (And.intro (And.intro @cE.eq_10 @cE.eq_11) (And.intro @cE.eq_12 @cE.eq_13)))) (And.intro (And.intro (And.intro
    @cE.eq_14 (And.intro @cE.eq_15 @cE.eq_16)) (And.intro @cE.eq_17 (And.intro @cE.eq_18 @cE.eq_19))) (And.intro (And.intro @ik.eq_1 (And.intro @ik.eq_2
    @ik.eq_3)) (And.intro (And.intro @ik.eq_4 @ik.eq_5) (And.intro @ik.eq_6 @ik.eq_7))))) (And.intro (And.intro (And.intro (And.intro @ik.eq_8 (And.intro @ik.eq_9
    @ik.eq_10)) (And.intro @ik.eq_11 (And.intro @ik.eq_12 @ik.eq_13))) (And.intro (And.intro @fA.eq_1 (And.intro @fA.eq_2 @fA.eq_3)) (And.intro (And.intro @fA.eq_4
    @fA.eq_5) (And.intro @fA.eq_6 @fA.eq_7)))) (And.intro (And.intro (And.intro @fA.eq_8 (And.intro @fA.eq_9 @fA.eq_10)) (And.intro @fA.eq_11 (And.intro @fA.eq_12
    @fA.eq_13))) (And.intro (And.intro @fA.eq_14 (And.intro @fA.eq_15 @fA.eq_16)) (And.intro (And.intro @vF.eq_1 @vF.eq_2) (And.intro @vF.eq_3 @xJ.eq_1))))))
    (And.intro (And.intro (And.intro (And.intro (And.intro @xJ.eq_2 (And.intro @xJ.eq_3 @xJ.eq_4)) (And.intro @mW.eq_1 (And.intro @mW.eq_2 @mW.eq_3))) (And.intro
    (And.intro @Gz.eq_1 (And.intro @Gz.eq_2 @Gz.eq_3)) (And.intro (And.intro @Gz.eq_4 @Gz.eq_5) (And.intro @Gz.eq_6 @dV.eq_1)))) (And.intro (And.intro (And.intro
    @dV.eq_2 (And.intro @dV.eq_3 @iO.eq_1)) (And.intro @iO.eq_2 (And.intro @iO.eq_3 @iO.eq_4))) (And.intro (And.intro @iO.eq_5 (And.intro @iP.eq_1
    @iP.eq_2)) (And.intro (And.intro @placeOf.eq_1 @bn.eq_1) (And.intro @bn.eq_2 @undef.eq_1))))) (And.intro (And.intro (And.intro (And.intro @oE.eq_1 (And.intro
    @apart.eq_1 @aI.eq_1)) (And.intro @aI.eq_2 (And.intro @aI.eq_3 @aI.eq_4))) (And.intro (And.intro @bg.eq_1 (And.intro @bg.eq_2 @aF.eq_1)) (And.intro (And.intro
    @br.eq_1 @nK.eq_1) (And.intro @az.eq_1 @az.eq_2)))) (And.intro (And.intro (And.intro @aw.eq_1 (And.intro @aw.eq_2 @kH.eq_1)) (And.intro @aj.eq_1
    (And.intro @Array.isEmpty.eq_1.{0} @List.isEmpty.eq_1.{0}))) (And.intro (And.intro @List.isEmpty.eq_2.{0} (And.intro @implies_true.{0} @implies_true.{1})) (And.intro (And.intro
    @forall_eq'.{1} @ne_eq.{1}) (And.intro @if_true.{1} @if_false.{1})))))))
theorem DB : type_of% (And.intro (And.intro (And.intro @Bool.not_true @Bool.not_false) (And.intro @Bool.false_eq_true @Bool.true_eq_false)) (And.intro (And.intro @false_imp_iff @true_imp_iff) (And.intro @decide_eq_true_eq @decide_eq_false_iff_not))) :=
  (And.intro (And.intro (And.intro @Bool.not_true @Bool.not_false) (And.intro @Bool.false_eq_true @Bool.true_eq_false)) (And.intro (And.intro @false_imp_iff @true_imp_iff) (And.intro @decide_eq_true_eq @decide_eq_false_iff_not)))
theorem DX : type_of% (And.intro (And.intro @List.contains_cons.{0} (And.intro @List.contains_nil.{0} @Bool.or_false)) (And.intro (And.intro @Bool.or_true @Bool.or_self) (And.intro @Bool.false_eq_true @Bool.false_or))) :=
  (And.intro (And.intro @List.contains_cons.{0} (And.intro @List.contains_nil.{0} @Bool.or_false)) (And.intro (And.intro @Bool.or_true @Bool.or_self) (And.intro @Bool.false_eq_true @Bool.false_or)))
theorem DT : type_of% (And.intro (And.intro @yi (And.intro @yj @ym)) (And.intro @tc (And.intro @vS @vT))) :=
  (And.intro (And.intro @yi (And.intro @yj @ym)) (And.intro @tc (And.intro @vS @vT)))
end Go.AM
namespace Go.AM
open Go Go.RowKit
variable {rd : Option Nat} {P : Program} {Γ : Nat→List AV} {G : Gh} {s : AS} {w : World} {N : Nat} {ops : Array Oper}
inductive Mk where
  | val
  | sB
  | Gu (v : AV)
  | OP
def Ha (P : Program) (o : Oper) : Option AV :=
  match o.op with
  | .makeSlice T (.const (.int _ n)) _ =>
    match P.underlying T with
    | some (.slice e)=>match ba P e with | some z=>some (.sl (P.cellsOf e) n.toNat (lW (n.toNat * P.cellsOf e) z) .no) | none=>none
    | _=>none
  | _=>none
def nS (P : Program) (N : Nat) (o : Oper) : Bool :=
  match o.guard,o.dst,o.op with
  | none,some d,.alloc T=>decide (d < N) && (ba P T).isSome
  | none,some d,.makeSlice T (.const (.int _ n)) (.const (.int _ m)) =>
    decide (d < N) && (match P.underlying T with
      | some (.slice e)=>(match ba P e with
        | some z=>decide (0≤n) && (decide (m = n) && (decide (P.bytesOf e * n≤70368744177664) && (decide (n≤70368744177664) && (decide (P.cellsOf e≠0) && decide (z.length = P.cellsOf e)))))
        | none=>false)
      | _=>false)
  | _,_,_=>false
def mK (ops : Array Oper) (o : Oper) (E : Env) : Prop :=
  match o.guard with
  | none=>True
  | some (j,want)=>match nK ops j with | some d=>E d = .v (.bool want) | none=>False
theorem uM {ops : Array Oper} {o : Oper} {E E' : Env} (h : ∀ d,d ∈ o.looksAt ops→E' d = E d) (hv : mK ops o E) : mK ops o E':=by
  cases hg : o.guard with
  | none=>simp [mK,hg]
  | some g =>
    obtain ⟨j,want⟩:=g;simp only [mK,hg] at hv ⊢;cases hj : nK ops j with
    | none=>rw [hj] at hv; exact hv.elim
    | some d =>
      rw [hj] at hv;have : E' d = E d:=h d (by
        by_cases hd : d ∈ o.looksAt ops
        · exact hd
        · exact absurd hj (mi hd hg))
      simp only [this];exact hv
theorem Hb {P : Program} {Γ : Nat→List AV} {N : Nat} {ops : Array Oper} {o : Oper} {E : Env} {s : AS} {K : Env→AS→Prop} (hg : mK ops o E) : AX P Γ N ops [o] K E s↔AX P Γ N ops [{ o with guard:=none }] K E s:=by
  cases h : o.guard with
  | none =>
    have : ({ o with guard:=none } : Oper) = o:=(by cases o; simp_all);rw [this]
  | some g =>
    obtain ⟨j,want⟩:=g;simp only [mK,h] at hg;cases hj : nK ops j with
    | none=>rw [hj] at hg; exact hg.elim
    | some d =>
      rw [hj] at hg;have:=ye (P:=P) (Γ:=Γ) (N:=N) (rest:=[]) (K:=K) (s:=s) h hj hg;rw [ay] at this;rw [this,if_pos rfl]
def LW (P : Program) (Γ : Nat→List AV) (o : Oper) (E : Env) (v : AV) : Prop :=
  o.guard = none ∧
  match o.op with
  | .call { callee:=.value f,args,.. } =>
    match aI Γ E f with
    | .v (.func (.func k) first cd)=>first.isEmpty = true∧cd.isEmpty = true∧af P k = true∧∀ s,ah P Γ k (args.toList.map (aI Γ E)) s (fun r s'=>r = v∧s' = s)
    | _=>False
  | _=>False
def GV (P : Program) (Γ : Nat→List AV) (N : Nat) (ops : Array Oper) (m : Mk) (o : Oper) (E : Env) (v : AV) : Prop :=
  match m with
  | .Gu u=>v = u∧LW P Γ o E u
  | .val=>bL P Γ ops o E = some v
  | .OP=>mK ops o E∧nS P N { o with guard:=none } = true∧Ha P o = some v
  | .sB=>False
def Mk.cc : Mk→Bool
  | .sB=>true
  | _=>false
def oS (P : Program) (Γ : Nat→List AV) (N : Nat) (ops : Array Oper) : List (Oper × Mk)→(Env→AS→Prop)→Env→AS→Prop
  | [],K,E,s=>K E s
  | (o,m) :: rest,K,E,s =>
    if m.cc = true then AX P Γ N ops [o] (oS P Γ N ops rest K) E s
    else (∀ d,o.dst = some d→d < N)∧∃ v,GV P Γ N ops m o E v∧oS P Γ N ops rest K (bg E o.dst v) s
theorem Hc {o : Oper} {E E' : Env} {v : AV} (h : ∀ d,d ∈ o.looksAt ops→E' d = E d) (hv : LW P Γ o E v) : LW P Γ o E' v:=by
  have gk : ∀ x ∈ o.op.operands,aI Γ E' x = aI Γ E x:=fun x hx=>by
    cases x with
    | tmp t=>exact h t (List.mem_append_left _ (List.mem_filterMap.2 ⟨.tmp t,by simpa using hx,rfl⟩))
    | const v=>rfl
    | global g=>rfl
    | func f=>rfl
  obtain ⟨hg,hv⟩:=hv;refine ⟨hg,?_⟩;cases hc : o.op <;> rw [hc] at hv;case call c =>
    obtain ⟨callee,args,argTypes⟩:=c;rw [hc] at gk;cases callee with
    | value f =>
      have hf : aI Γ E' f = aI Γ E f:=gk f (by simp [Op.operands,Call.operands]);have ha : args.toList.map (aI Γ E') = args.toList.map (aI Γ E):=List.map_congr_left fun x hx=>gk x (by
        have : x ∈ args:=(by simpa using hx);simp [Op.operands,Call.operands,this])
      simp only [hf,ha];exact hv
    | invoke r m=>exact hv
    | builtin b=>exact hv
  all_goals exact hv
theorem tn {m : Mk} {o : Oper} {E E' : Env} {v : AV} (h : ∀ d,d ∈ o.looksAt ops→E' d = E d) (hv : GV P Γ N ops m o E v) : GV P Γ N ops m o E' v:=by
  cases m with
  | Gu u=>exact ⟨hv.1,Hc h hv.2⟩
  | OP=>exact ⟨uM h hv.1,hv.2⟩
  | val=>exact (jc h).trans hv
  | sB=>exact hv
theorem J1 {m : Mk} {o : Oper} {E : Env} {v v' : AV} (h : GV P Γ N ops m o E v) (h' : GV P Γ N ops m o E v') : v = v':=by
  cases m with
  | Gu u=>exact h.1.trans h'.1.symm
  | OP=>exact Option.some.inj (h.2.2.symm.trans h'.2.2)
  | val=>exact Option.some.inj (Eq.trans (Eq.symm h) h')
  | sB=>exact h.elim
theorem Pz {o : Oper} {E : Env} {v : AV} {K : Env→AS→Prop} (hd : ∀ d,o.dst = some d→d < N) (hv : LW P Γ o E v) (h : K (bg E o.dst v) s) : AX P Γ N ops [o] K E s:=by
  obtain ⟨hg,hv⟩:=hv;simp only [AX,hg];refine ⟨hd,?_⟩;cases hc : o.op <;> rw [hc] at hv;case call c =>
    obtain ⟨callee,args,argTypes⟩:=c;cases callee with
    | value f =>
      simp only [bX,cE,cY];simp only at hv;split at hv
      · rename_i k first cd hf
        simp only [hf];obtain ⟨h1,h2,h3,h4⟩:=hv;refine ⟨h1,h2,h3,(h4 s).mono ?_⟩;rintro r s' ⟨rfl,rfl⟩;exact h
      · cases hv
    | invoke r m=>cases hv
    | builtin b=>cases hv
  all_goals cases hv
theorem Hd {o : Oper} {m : Mk} (Tl : m≠.OP) {L : List (Oper × Mk)} {E : Env} {K : Env→AS→Prop} (h : oS P Γ N ops ((o,m) :: L) K E s) : AX P Γ N ops [o] (oS P Γ N ops L K) E s:=by
  simp only [oS] at h;split at h
  · exact h
  · obtain ⟨hd,v,hv,h⟩:=h;cases m with
    | Gu u =>
      obtain ⟨rfl,hv⟩:=hv;exact Pz hd hv h
    | sB=>exact hv.elim
    | OP=>exact absurd rfl Tl
    | val =>
      have hv : bL P Γ ops o E = some v:=hv;have : pr P Γ N ops [(o,false)] (oS P Γ N ops L K) E s:=by
        simp only [pr,Bool.false_eq_true,if_false,hv];exact ⟨hd,h⟩
      have:=GQ this;simpa only [pr] using this
def dR (P : Program) (Γ : Nat→List AV) (N : Nat) (ops : Array Oper) (o : Oper) : Prop :=
  ∃ (v : Nat→AV) (z : List AV),∀ (E : Env) (s : AS) (K : Env→AS→Prop),AX P Γ N ops [o] K E s↔∀ ob,s.aq ob = none→K (bg E o.dst (v ob)) (s.set ob z)
theorem He {f o : Oper} (hf : dR P Γ N ops f) (ho : dR P Γ N ops o) (hd : ∀ d,f.dst = some d→o.dst≠some d) {E : Env} {K : Env→AS→Prop}
    (h : AX P Γ N ops [f] (fun E s=>AX P Γ N ops [o] K E s) E s) : AX P Γ N ops [o] (fun E s=>AX P Γ N ops [f] K E s) E s:=by
  obtain ⟨vf,zf,hf⟩:=hf;obtain ⟨vo,zo,ho⟩:=ho;rw [ho];intro o2 h2;rw [hf];intro o1 h1;rw [hf] at h;have dp : o1≠o2:=(by rintro rfl; rw [AS.aa] at h1; cases h1);rw [AS.ae _ dp] at h1;have:=(ho _ _ _).1 (h o1 h1) o2 (by rw [AS.ae _ dp.symm]; exact h2);have e1 : ((s.set o1 zf).set o2 zo) = ((s.set o2 zo).set o1 zf):=by
    simp only [AS.set,AS.mk.injEq,and_true];funext i;simp only [aF];by_cases a : i = o1
    · subst a; simp [dp]
    · by_cases b : i = o2
      · subst b; simp [dp.symm]
      · simp [a,b]
  rw [e1,kW hd] at this;exact this
theorem dR.alloc {T : TypeId} {z : List AV} {d : Tmp} {ty : TypeId} {pos : String} {after : Array Edge} (hz : ba P T = some z) (hd : d < N) : dR P Γ N ops { dst:=some d,op:=.alloc T,type:=ty,pos:=pos,after:=after,guard:=none }:=by
  refine ⟨fun o=>.ptr o 0,z,fun E s K=>?_⟩;simp only [AX,bX,cE,cY,hz];refine ⟨fun h=>h.2,fun h=>⟨fun d' LN=>?_,h⟩⟩;cases LN; exact hd
theorem dR.make {T e : TypeId} {k k' : IntKind} {n m : Int} {z : List AV} {d : Tmp} {ty : TypeId} {pos : String} {after : Array Edge} (hT : P.underlying T = some (.slice e)) (hz : ba P e = some z)
    (h : 0≤n∧m = n∧P.bytesOf e * n≤2 ^ 46∧n≤2 ^ 46∧P.cellsOf e≠0∧z.length = P.cellsOf e) (hd : d < N) : dR P Γ N ops { dst:=some d,op:=.makeSlice T (.const (.int k n)) (.const (.int k' m)),type:=ty,pos:=pos,after:=after,guard:=none }:=by
  refine ⟨fun o=>.gw o 0 (P.cellsOf e) n.toNat n.toNat,lW (n.toNat * P.cellsOf e) z,fun E s K=>?_⟩;simp only [AX,bX,cE,cY,aI,hT,hz];obtain ⟨h1,h2,h3,h4,h5,h6⟩:=h;refine ⟨fun h=>h.2.2.2.2.2.2.2,fun h=>⟨fun d' LN=>?_,h1,h2,h3,h4,h5,h6,h⟩⟩;cases LN; exact hd
theorem ET {o : Oper} (h : nS P N o = true) : dR P Γ N ops o:=by
  obtain ⟨dst,op,ty,pos,after,guard⟩:=o;unfold nS at h;split at h
  · rename_i d T h1 h2 h3;simp only at h1 h2 h3;subst h1 h2 h3;simp only [Bool.and_eq_true,decide_eq_true_eq] at h;obtain ⟨hd,hz⟩:=h;obtain ⟨z,hz⟩:=Option.isSome_iff_exists.1 hz;exact dR.alloc hz hd
  · rename_i d T k n k' m h1 h2 h3;simp only at h1 h2 h3;subst h1 h2 h3;simp only [Bool.and_eq_true] at h;obtain ⟨hd,h⟩:=h;split at h
    · rename_i e hT;split at h
      · rename_i z hz;simp only [Bool.and_eq_true,decide_eq_true_eq] at h;obtain ⟨q1,q2,q3,q4,q5,q6⟩:=h;exact dR.make hT hz ⟨q1,q2,by simpa using q3,by simpa using q4,q5,q6⟩ (of_decide_eq_true hd)
      · cases h
    · cases h
  · cases h
theorem Hf {o : Oper} {v : AV} (hb : nS P N o = true) (hv : Ha P o = some v) : ∃ (d : Tmp) (sz n : Nat) (z : List AV),o.dst = some d ∧
    (∀ (E : Env) (s : AS) (K : Env→AS→Prop),AX P Γ N ops [o] K E s↔∀ ob,s.aq ob = none→K (bg E o.dst (.gw ob 0 sz n n)) (s.set ob z))∧v = .sl sz n z .no∧z.length = n * sz:=by
  obtain ⟨dst,op,ty,pos,after,guard⟩:=o;unfold nS at hb;split at hb
  · rename_i d T h1 h2 h3;simp only at h1 h2 h3;subst h1 h2 h3;simp [Ha] at hv
  · rename_i d T k n k' m h1 h2 h3;simp only at h1 h2 h3;subst h1 h2 h3;simp only [Bool.and_eq_true] at hb;obtain ⟨hd,hb⟩:=hb;split at hb
    · rename_i e hT;split at hb
      · rename_i z hz;simp only [Bool.and_eq_true,decide_eq_true_eq] at hb;obtain ⟨q1,q2,q3,q4,q5,q6⟩:=hb;simp only [Ha,hT,hz,Option.some.injEq] at hv;refine ⟨d,P.cellsOf e,n.toNat,lW (n.toNat * P.cellsOf e) z,rfl,fun E s K=>?_,hv.symm,?_⟩
        · simp only [AX,bX,cE,cY,aI,hT,hz];refine ⟨fun h=>h.2.2.2.2.2.2.2,fun h=>⟨fun d' LN=>?_,q1,q2,by simpa using q3,by simpa using q4,q5,q6,h⟩⟩;cases LN; exact of_decide_eq_true hd
        · simp [lW]
      · cases hb
    · cases hb
  · cases hb
theorem BL {o : Oper} {v : AV} (hb : nS P N { o with guard:=none } = true) (hv : Ha P o = some v) : ∃ (d : Tmp) (sz n : Nat) (z : List AV),o.dst = some d ∧
    (∀ (E : Env) (s : AS) (K : Env→AS→Prop),mK ops o E→(AX P Γ N ops [o] K E s↔∀ ob,s.aq ob = none→K (bg E o.dst (.gw ob 0 sz n n)) (s.set ob z)))∧v = .sl sz n z .no∧z.length = n * sz:=by
  obtain ⟨d,sz,n,z,h1,h2,h3,h4⟩:=Hf (Γ:=Γ) (ops:=ops) hb hv;exact ⟨d,sz,n,z,h1,fun E s K hg=>(Hb hg).trans (h2 E s K),h3,h4⟩
theorem IG {o : Oper} {d : Tmp} {sz n : Nat} {z : List AV} {E : Env} {G' : Gh} {a' : Act} {w' : World} {ob : Nat} (hd : o.dst = some d) (hz : z.length = n * sz) (ho : s.aq ob = none)
    (hr : Rel Γ N G' (bg E o.dst (.gw ob 0 sz n n)) (s.set ob z) a' w') : ∃ G2,G'.le G2∧Rel Γ N G2 (bg E o.dst (.sl sz n z .no)) s a' w':=by
  rw [hd] at hr ⊢;have hg:=fm.freeze (Γ:=Γ) (N:=N) (E:=bg E (some d) (.gw ob 0 sz n n)) (s:=s.set ob z) (d:=d) (o:=ob) (off:=0) (sz:=sz) (n:=n) (cap:=n) (by simp [bg,aF]) (AS.aa _ _ _) (by omega);rw [AS.drop_set ho,List.drop_zero,List.take_of_length_le (by omega)] at hg;obtain ⟨G2,k1,k2⟩:=hg _ _ _ hr;refine ⟨G2,k1,?_⟩;have : aF (bg E (some d) (.gw ob 0 sz n n)) d (.sl sz n z .no) = bg E (some d) (.sl sz n z .no):=by
    funext i;simp only [bg,aF];split <;> rfl
  rwa [this] at k2
theorem LX {o : Oper} {m : Mk} {L : List (Oper × Mk)} {E : Env} {a : Act} {K : Env→AS→Prop} (h : oS P Γ N ops ((o,m) :: L) K E s) (hr : Rel Γ N G E s a w) :
    ∃ G' E' s' a' w',Rel Γ N G' E' s' a' w'∧oS P Γ N ops L K E' s'∧∀ i,o.dst≠some i→E' i = E i:=by
  by_cases hm : m = .OP
  · subst hm;simp only [oS,Mk.cc,Bool.false_eq_true,if_false] at h;obtain ⟨_,v,⟨Vi,hb,hv⟩,h⟩:=h;obtain ⟨d,sz,n,z,hd,hax,rfl,hz⟩:=BL (Γ:=Γ) (ops:=ops) hb hv;have:=(hax E s (fun E' s'=>∃ ob,s.aq ob = none∧E' = bg E o.dst (.gw ob 0 sz n n)∧s' = s.set ob z) Vi).2 fun ob ho=>⟨ob,ho,rfl,rfl⟩;obtain ⟨G',E',s',a',w',uy,⟨ob,ho,rfl,rfl⟩,_⟩:=hJ this hr;obtain ⟨G2,_,tj⟩:=IG hd hz ho uy;exact ⟨G2,_,_,a',w',tj,h,fun i hi=>bW hi⟩
  · exact hJ (Hd hm h) hr
theorem EU {y : Oper} {m : Mk} (hm : m.cc = false) {L2 : List (Oper × Mk)} {K : Env→AS→Prop} : ∀ (L1 : List (Oper × Mk)) {G : Gh} {E : Env} {s : AS} {a : Act} {w : World},(∀ x ∈ L1,dL ops x.1 y)→oS P Γ N ops (L1 ++ (y,m) :: L2) K E s→Rel Γ N G E s a w →
    (∀ d,y.dst = some d→d < N)∧∃ v,GV P Γ N ops m y E v
  | [],G,E,s,a,w,_,h,hr=>by
    simp only [List.nil_append,oS,hm,Bool.false_eq_true,if_false] at h;obtain ⟨h1,v,h2,_⟩:=h;exact ⟨h1,v,h2⟩
  | (x,ex) :: L1,G,E,s,a,w,iS,h,hr=>by
    obtain ⟨G',E',s',a',w',uy,hK,hf⟩:=LX h hr;obtain ⟨h1,v,h2⟩:=EU hm L1 (fun x hx=>iS x (List.mem_cons_of_mem _ hx)) hK uy;refine ⟨h1,v,tn (fun d hd=>(hf d fun e=>?_).symm) h2⟩;exact (Oper.apart_spec (iS (x,ex) (by simp))).1 d e hd
theorem mL {y : Oper} {m : Mk} (hm : m.cc = false) {L2 : List (Oper × Mk)} {K : Env→AS→Prop} {v : AV} : ∀ (L1 : List (Oper × Mk)) {E : Env} {s : AS},(∀ x ∈ L1,dL ops x.1 y)→GV P Γ N ops m y E v→oS P Γ N ops (L1 ++ (y,m) :: L2) K E s →
    oS P Γ N ops (L1 ++ L2) K (bg E y.dst v) s
  | [],E,s,_,hv,h=>by
    simp only [List.nil_append,oS,hm,Bool.false_eq_true,if_false] at h;obtain ⟨_,u,hu,h⟩:=h;rw [J1 hv hu];exact h
  | (x,ex) :: L1,E,s,iS,hv,h=>by
    obtain ⟨a1,a2,a3⟩:=Oper.apart_spec (iS (x,ex) (by simp));have lZ : ∀ x ∈ L1,dL ops x.1 y:=fun x hx=>iS x (List.mem_cons_of_mem _ hx);have Lx : ∀ E' : Env,(∀ i,x.dst≠some i→E' i = E i)→GV P Γ N ops m y E' v:=fun E' hE=>tn (fun d hd=>hE d fun e=>a1 d e hd) hv;simp only [List.cons_append,oS] at h ⊢;split at h
    · rename_i he;rw [if_pos he];refine (pt (fun d hd=>a3 d hd) (fun d hd e=>a2 d e hd)).2 ?_;refine cf _ (fun E' s' hE=>?_) (cl h);exact mL hm L1 lZ (Lx E' hE.2) hE.1
    · rename_i he;rw [if_neg he];obtain ⟨h0,u,hu,h⟩:=h;refine ⟨h0,u,tn (fun d hd=>bW fun e=>a3 d e hd) hu,?_⟩;rw [kW (fun d h1 h2=>a2 d h2 h1)];exact mL hm L1 lZ (Lx _ fun i hi=>bW hi) h
theorem mM {y : Oper} {L2 : List (Oper × Mk)} {K : Env→AS→Prop} : ∀ (L1 : List (Oper × Mk)) {E : Env} {s : AS},(∀ x ∈ L1,dL ops x.1 y∧(x.2.cc = false∨(dR P Γ N ops x.1∧dR P Γ N ops y)))→oS P Γ N ops (L1 ++ (y,.sB) :: L2) K E s →
    AX P Γ N ops [y] (oS P Γ N ops (L1 ++ L2) K) E s
  | [],E,s,_,h=>by simpa only [List.nil_append,oS,Mk.cc,if_true] using h
  | (x,ex) :: L1,E,s,iS,h=>by
    obtain ⟨GR,hex⟩:=iS (x,ex) (by simp);simp only at hex;obtain ⟨a1,a2,a3⟩:=Oper.apart_spec GR;have lZ : ∀ x ∈ L1,dL ops x.1 y∧(x.2.cc = false∨(dR P Γ N ops x.1∧dR P Γ N ops y)):=fun x hx=>iS x (List.mem_cons_of_mem _ hx);cases hx : ex.cc with
    | true =>
      rw [hx] at hex;rcases hex with hex | ⟨f1,f2⟩
      · cases hex
      simp only [List.cons_append,oS,hx,if_true] at h ⊢;exact He f1 f2 (fun d hd e=>a2 d hd e) (cf _ (fun E' s' hE=>mM L1 lZ hE) h)
    | false =>
      simp only [List.cons_append,oS,hx,Bool.false_eq_true,if_false] at h;obtain ⟨h0,v,hv,h⟩:=h;have h1:=mM L1 lZ h;have h2:=(pt (fun d hd=>a1 d hd) (fun d hd=>a2 d hd)).1 h1;refine cf _ (fun E' s' hE=>?_) (cl h2);simp only [List.cons_append,oS,hx,Bool.false_eq_true,if_false];exact ⟨h0,v,tn (fun d hd=>hE.2 d fun e=>a3 d e hd) hv,hE.1⟩
theorem uN : ∀ (L : List (Oper × Mk)) {K : Env→AS→Prop} {E : Env} {s : AS},oS P Γ N ops L K E s→oS P Γ N ops L (fun E' s'=>K E' s'∧∀ i,i ∉ bU (L.map (·.1))→E' i = E i) E s
  | [],K,E,s,h=>⟨h,fun _ _=>rfl⟩
  | (o,mm) :: L,K,E,s,h=>by
    have mono : ∀ (L : List (Oper × Mk)) {K K' : Env→AS→Prop} {E : Env} {s : AS},(∀ E s,K E s→K' E s)→oS P Γ N ops L K E s→oS P Γ N ops L K' E s:=by
      intro L;induction L with
      | nil=>intro K K' E s hk h; exact hk _ _ h
      | cons x L ih =>
        intro K K' E s hk h;simp only [oS] at h ⊢;split at h
        · rename_i he; rw [if_pos he]; exact cf _ (fun E s h=>ih hk h) h
        · rename_i he;rw [if_neg he];obtain ⟨h0,v,hv,h⟩:=h;exact ⟨h0,v,hv,ih hk h⟩
    have px : ∀ i,i ∉ bU (((o,mm) :: L).map (·.1))→i ∉ bU (L.map (·.1))∧o.dst≠some i:=by
      intro i hi;simp only [bU,List.map_cons,List.filterMap_cons] at hi;refine ⟨fun hm=>hi ?_,fun e=>hi (by simp [e])⟩;simp only [bU] at hm;split
      · exact hm
      · exact List.mem_cons_of_mem _ hm
    simp only [oS] at h ⊢;split at h
    · rename_i he;rw [if_pos he];refine cf _ (fun E' s' hE=>?_) (cl h);refine mono L (fun gB fD x5=>⟨x5.1,fun i hi=>?_⟩) (uN L hE.1);obtain ⟨m1,m2⟩:=px i hi;rw [x5.2 i m1,hE.2 i m2]
    · rename_i he;rw [if_neg he];obtain ⟨h0,v,hv,h⟩:=h;refine ⟨h0,v,hv,mono L (fun gB fD x5=>⟨x5.1,fun i hi=>?_⟩) (uN L h)⟩;obtain ⟨m1,m2⟩:=px i hi;rw [x5.2 i m1,bW m2]
def lE (ops : Array Oper) (mk : Nat→Mk) (i : Nat) : Oper × Mk:=((ops[i]?).getD default,mk i)
def yB (ops : Array Oper) (D : List Nat) (mk : Nat→Mk) (fr : List Nat) : Bool :=
  (List.range ops.size).all fun j=>(List.range j).all fun i =>
    match ops[i]?,ops[j]? with
    | some x,some y=>(D.getD j 0).testBit i || (x.apart ops y && !((mk i).cc && (mk j).cc && !(fr.contains i && fr.contains j)))
    | _,_=>true
def tp (ops : Array Oper) (mk : Nat→Mk) (fr : List Nat) : Bool :=
  vL ops (Region.before ops).toList && yB ops (Region.before ops).toList mk fr
theorem CX {mk : Nat→Mk} {fr : List Nat} (Ea : ∀ i ∈ fr,dR P Γ N ops ((ops[i]?).getD default)) {Q : Exit→Act→World→Prop} {K : Env→AS→Prop} (ie : tp ops mk fr = true) :
    ∀ (fuel : Nat) (listed : Array Bool) {G : Gh} {E : Env} {s : AS} {a : Act} {w : World},listed.size = ops.size→(left ops listed).length≤fuel →
      (∀ (i : Nat) (o : Oper),ops[i]? = some o→listed.getD i true = true→∀ e ∈ o.after.toList,Region.binds .any e = true→listed.getD e.on false = true) →
      oS P Γ N ops ((left ops listed).map (lE ops mk)) K E s→Rel Γ N G E s a w →
      (∀ G' E' s' a' w',G.le G'→Rel Γ N G' E' s' a' w'→K E' s'→Q .normal a' w')→wpAnyIn (sO rd) 0 P .any ops Q fuel listed a w:=by
  simp only [tp,Bool.and_eq_true] at ie
  obtain ⟨uz,ly⟩:=ie
  intro fuel
  have qL : ∀ (listed : Array Bool),Region.ready .any ops listed = []→left ops listed = []:=by
    intro listed h
    -- the first that is left could go
    cases hl : left ops listed with
    | nil=>rfl
    | cons i L =>
      exfalso
      have hi : i ∈ left ops listed:=by rw [hl]; simp
      obtain ⟨h1,h2⟩:=mem_left.1 hi
      have xY : ∀ j,j < i→listed.getD j true = true:=by
        intro j hj
        cases Eo : listed.getD j true with
        | true=>rfl
        | false =>
          exfalso
          have CF : j ∈ left ops listed:=mem_left.2 ⟨by omega,Eo⟩
          have hs : (left ops listed).Pairwise (· < ·):=by
            unfold left
            exact List.Pairwise.filter _ List.pairwise_lt_range
          rw [hl] at hs CF
          rcases List.mem_cons.1 CF with rfl | CF
          · omega
          · have:=(List.pairwise_cons.1 hs).1 j CF
            omega
      have ho : ops[i]? = some ops[i]:=by simp [h1]
      have hr : i ∈ Region.ready .any ops listed:=by
        rw [mem_ready]
        refine ⟨h2,_,ho,fun e he hb=>?_⟩
        have bS:=(fG uz ho).2 e (by simpa using he) hb
        have:=xY _ bS
        -- both defaults agree where the place is there
        have eI : e.on < listed.size:=by
          rcases Nat.lt_or_ge e.on listed.size with h' | h'
          · exact h'
          · exfalso
            have : listed.getD i true = true:=by
              simp [Array.getElem?_eq_none (show listed.size≤i by omega)]
            rw [h2] at this; cases this
        simpa [eI] using this
      rw [h] at hr
      cases hr
  induction fuel with
  | zero =>
    intro listed G E s a w eI hlen gy h hr hq
    have hl : left ops listed = []:=List.eq_nil_of_length_eq_zero (by omega)
    have gl : Region.ready .any ops listed = []:=by
      cases Pl : Region.ready .any ops listed with
      | nil=>rfl
      | cons i L =>
        exfalso
        have : i ∈ Region.ready .any ops listed:=by rw [Pl]; simp
        rw [mem_ready] at this
        obtain ⟨h0,o,ho,_⟩:=this
        have : i ∈ left ops listed:=mem_left.2 ⟨(Array.getElem?_eq_some_iff.1 ho).1,h0⟩
        rw [hl] at this
        cases this
    rw [hl] at h
    exact ⟨gl,hq G E s a w (.refl G) hr h⟩
  | succ fuel ih =>
    intro listed G E s a w eI hlen gy h hr hq
    refine ⟨fun gl=>?_,fun i hi=>?_⟩
    · rw [qL listed gl] at h
      exact hq G E s a w (.refl G) hr h
    · obtain ⟨h0,o,ho,cu⟩:=mem_ready.1 hi
      have uA : i < ops.size:=(Array.getElem?_eq_some_iff.1 ho).1
      obtain ⟨L1,L2,q1,q2,q3⟩:=sU eI uA h0
      -- what comes before i is done
      have nN : ∀ (j : Nat) (oj : Oper),ops[j]? = some oj→(∀ e ∈ oj.after.toList,Region.binds .any e = true→listed.getD e.on false = true)→∀ l,((Region.before ops).toList.getD j 0).testBit l = true→listed.getD l false = true:=by
        intro j
        induction j using Nat.strongRecOn with
        | _ j S1 =>
          intro oj uB hj l hl
          obtain ⟨d1,d2⟩:=fG uz uB
          obtain ⟨e,he,hb,h1⟩:=d1 l hl
          have wQ:=hj e he hb
          rcases h1 with rfl | h1
          · exact wQ
          · have bS:=d2 e he hb
            have S4 : e.on < ops.size:=by
              have:=(Array.getElem?_eq_some_iff.1 uB).1
              omega
            have xZ : ops[e.on]? = some ops[e.on]:=by simp [S4]
            refine S1 e.on bS _ xZ (gy e.on _ xZ ?_) l h1
            have : e.on < listed.size:=by omega
            simpa [this] using wQ
      have qT : ∀ x ∈ L1,dL ops ((ops[x]?).getD default) o∧((mk x).cc = false∨(mk i).cc = false∨(fr.contains x = true∧fr.contains i = true)):=by
        intro x hx
        obtain ⟨VZ,JT⟩:=q3 x hx
        unfold yB at ly
        rw [List.all_eq_true] at ly
        have h1:=ly i (by simpa using uA)
        rw [List.all_eq_true] at h1
        have h2:=h1 x (by simpa using VZ)
        have Rn : ops[x]? = some (ops[x]'(by omega)):=by simp
        rw [Rn,ho] at h2
        simp only [Bool.or_eq_true,Bool.and_eq_true,Bool.not_eq_true'] at h2
        rcases h2 with h2 | ⟨h2,h3⟩
        · exfalso
          have:=nN i o ho (fun e he hb=>cu e (by simpa using he) hb) x h2
          have S5 : x < listed.size:=by omega
          simp [S5] at this JT
          rw [JT] at this; cases this
        · refine ⟨by rw [Rn]; exact h2,?_⟩
          cases e1 : (mk x).cc with
          | false=>exact Or.inl rfl
          | true =>
            cases e2 : (mk i).cc with
            | false=>exact Or.inr (Or.inl rfl)
            | true =>
              rw [e1,e2] at h3
              simp only [Bool.true_and,Bool.not_eq_eq_eq_not,Bool.not_false,Bool.and_eq_true,Bool.not_eq_true'] at h3
              exact Or.inr (Or.inr (by simpa using h3))
      have cg : ∀ {G' : Gh} {E' : Env} {s' : AS} {a' : Act} {w' : World},G.le G'→oS P Γ N ops ((L1 ++ L2).map (lE ops mk)) K E' s'→Rel Γ N G' E' s' a' w'→wpAnyIn (sO rd) 0 P .any ops Q fuel (listed.setIfInBounds i true) a' w':=by
        intro G' E' s' a' w' hle hA uy
        refine ih (listed.setIfInBounds i true) (by simpa using eI) ?_ ?_ ?_ uy (fun sA gB fD xV ux k1 k2 k3=>hq sA gB fD xV ux (hle.trans k1) k2 k3)
        · rw [q2]
          rw [q1] at hlen
          simp at hlen ⊢
          omega
        · intro j oj uB hj e he hb
          by_cases Ev : j = i
          · subst Ev
            rw [ho] at uB; cases uB
            exact getD_set_true (cu e (by simpa using he) hb)
          · rw [getD_set_ne true (Ne.symm Ev)] at hj
            exact getD_set_true (gy j oj uB hj e he hb)
        · rw [q2]; exact hA
      rw [q1] at h
      simp only [List.map_append,List.map_cons] at h cg
      have gk : lE ops mk i = (o,mk i):=by simp [lE,ho]
      rw [gk] at h
      cases hf : (mk i).cc with
      | false =>
        have iS : ∀ x ∈ L1.map (lE ops mk),dL ops x.1 o:=by
          intro x hx
          obtain ⟨j,hj,rfl⟩:=List.mem_map.1 hx
          exact (qT j hj).1
        obtain ⟨hd,v,hv⟩:=EU hf _ iS h hr
        have h1:=mL hf _ iS hv h
        have hX : oS P Γ N ops ((o,mk i) :: (L1.map (lE ops mk) ++ L2.map (lE ops mk))) K E s:=by
          simp only [oS,hf,Bool.false_eq_true,if_false]
          exact ⟨hd,v,hv,h1⟩
        by_cases Tl : mk i = .OP
        · rw [Tl] at hv
          obtain ⟨Vi,hb,hv⟩:=hv
          obtain ⟨d,sz,n,z,hdd,hax,rfl,hz⟩:=BL (Γ:=Γ) (ops:=ops) hb hv
          have h2:=(hax E s (fun E' s'=>∃ ob,s.aq ob = none∧E' = bg E o.dst (.gw ob 0 sz n n)∧s' = s.set ob z) Vi).2 fun ob qx=>⟨ob,qx,rfl,rfl⟩
          refine fW (L:=[]) (K:=fun E' s'=>∃ ob,s.aq ob = none∧E' = bg E o.dst (.gw ob 0 sz n n)∧s' = s.set ob z) ho h2 hr (fun G' E' s' a' w' k1 k2 k3=>?_)
          obtain ⟨ob,qx,rfl,rfl⟩ : ∃ ob,s.aq ob = none∧E' = bg E o.dst (.gw ob 0 sz n n)∧s' = s.set ob z:=k3
          obtain ⟨G2,k4,k5⟩:=IG hdd hz qx k2
          exact cg (k1.trans k4) h1 k5
        have h2:=Hd Tl hX
        exact fW (L:=[]) (K:=fun E s=>oS P Γ N ops (L1.map (lE ops mk) ++ L2.map (lE ops mk)) K E s) ho h2 hr (fun G' E' s' a' w' k1 k2 k3=>cg k1 k3 k2)
      | true =>
        have Tm : mk i = .sB:=by
          cases hm : mk i with
          | sB=>rfl
          | val=>rw [hm] at hf; cases hf
          | OP=>rw [hm] at hf; cases hf
          | Gu u=>rw [hm] at hf; cases hf
        rw [Tm] at h
        have iS : ∀ x ∈ L1.map (lE ops mk),dL ops x.1 o∧(x.2.cc = false∨(dR P Γ N ops x.1∧dR P Γ N ops o)):=by
          intro x hx
          obtain ⟨j,hj,rfl⟩:=List.mem_map.1 hx
          refine ⟨(qT j hj).1,?_⟩
          rcases (qT j hj).2 with k | k | ⟨k1,k2⟩
          · exact Or.inl k
          · rw [hf] at k; cases k
          · refine Or.inr ⟨Ea j (by simpa using k1),?_⟩
            have:=Ea i (by simpa using k2)
            rwa [ho] at this
        have h2:=mM _ iS h
        exact fW (L:=[]) (K:=fun E s=>oS P Γ N ops (L1.map (lE ops mk) ++ L2.map (lE ops mk)) K E s) ho h2 hr (fun G' E' s' a' w' k1 k2 k3=>cg k1 k3 k2)
def qy (ops : Array Oper) (mk : Nat→Mk) : List (Oper × Mk):=(List.range ops.size).map (lE ops mk)
def ka : List (Nat × AV)→Nat→Option AV
  | [],_=>none
  | (i,v) :: L,k=>if k = i then some v else ka L k
theorem eF {k : Nat} : ka [] k = none:=rfl
theorem dP {i k : Nat} {v : AV} {L : List (Nat × AV)} : ka ((i,v) :: L) k = if k = i then some v else ka L k:=rfl
def ji : List (Nat × Nat)→Nat→Option Nat
  | [],_=>none
  | (i,v) :: L,k=>if k = i then some v else ji L k
theorem nT {k : Nat} : ji [] k = none:=rfl
theorem mn {i k v : Nat} {L : List (Nat × Nat)} : ji ((i,v) :: L) k = if k = i then some v else ji L k:=rfl
def mq (n : Nat) : AV:=.sl 1 n (List.replicate n (.v (.int .u8 0))) .no
def J4 (P : Program) (N : Nat) (o : Oper) (n : Nat) : Bool :=
  nS P N { o with guard:=none } &&
  match o.op with
  | .makeSlice T (.const (.int _ m)) _ =>
    decide (m = (n : Int)) && (match P.underlying T with
      | some (.slice e)=>decide (P.cellsOf e = 1) && (match ba P e with | some [.v (.int .u8 x)]=>decide (x = 0) | _=>false)
      | _=>false)
  | _=>false
theorem J8 {o : Oper} {n : Nat} (h : J4 P N o n = true) : nS P N { o with guard:=none } = true∧Ha P o = some (mq n):=by
  simp only [J4,Bool.and_eq_true] at h;obtain ⟨h1,h2⟩:=h;refine ⟨h1,?_⟩;split at h2
  · rename_i T k m y ho;simp only [Bool.and_eq_true,decide_eq_true_eq] at h2;obtain ⟨rfl,h2⟩:=h2;split at h2
    · rename_i e hT;simp only [Bool.and_eq_true,decide_eq_true_eq] at h2;obtain ⟨hc,h2⟩:=h2;split at h2
      · rename_i x hz;simp only [decide_eq_true_eq] at h2;subst h2;simp only [Ha,ho,hT,hz,hc,mq,Nat.mul_one,xI,Int.toNat_natCast]
      · cases h2
    · cases h2
  · cases h2
def yC (fl : List Nat) (fz : List (Nat × Nat)) (gv : List (Nat × AV)) (i : Nat) : Mk:=if fl.contains i = true then .sB else match ji fz i with | some _=>.OP | none=>match ka gv i with | some v=>.Gu v | none=>.val
theorem EV {fl : List Nat} {fz : List (Nat × Nat)} {gv : List (Nat × AV)} {i : Nat} : (yC fl fz gv i).cc = fl.contains i:=by
  unfold yC;split
  · rename_i h; rw [h]; rfl
  · rename_i h;rw [Bool.not_eq_true] at h;rw [h];cases ji fz i with
    | some n=>rfl
    | none=>cases ka gv i <;> rfl
def EW (ops : Array Oper) (D : List Nat) (fl fr : List Nat) : Bool :=
  (List.range ops.size).all fun j=>(List.range j).all fun i =>
    match ops[i]?,ops[j]? with
    | some x,some y=>(D.getD j 0).testBit i || (x.apart ops y && !(fl.contains i && fl.contains j && !(fr.contains i && fr.contains j)))
    | _,_=>true
def CY (P : Program) (N : Nat) (ops : Array Oper) (fl fr : List Nat) (fz : List (Nat × Nat)) : Bool :=
  vL ops (Region.before ops).toList && EW ops (Region.before ops).toList fl fr && (fr.all fun i=>nS P N ((ops[i]?).getD default)) &&
    (List.range ops.size).all fun i=>match ops[i]?,ji fz i with | some o,some n=>J4 P N o n | _,_=>true
def v7 (mk : Nat→Mk) : Nat→List Oper→List (Oper × Mk)
  | _,[]=>[]
  | k,o :: L=>(o,mk k) :: v7 mk (k + 1) L
theorem BM (mk : Nat→Mk) : ∀ (L : List Oper) (k i : Nat),(v7 mk k L)[i]? = (L[i]?).map fun o=>(o,mk (k + i))
  | [],k,i=>by simp [v7]
  | o :: L,k,0=>by simp [v7]
  | o :: L,k,i + 1=>by
    simp only [v7,List.getElem?_cons_succ,BM mk L (k + 1) i];rw [show k + 1 + i = k + (i + 1) by omega]
theorem Hg (mk : Nat→Mk) : qy ops mk = v7 mk 0 ops.toList:=by
  apply List.ext_getElem?;intro i;simp only [qy,List.getElem?_map,BM,Nat.zero_add];by_cases h : i < ops.size
  · simp [h,lE]
  · simp [h]
def We (P : Program) (Γ : Nat→List AV) (k : FuncId) (as : List AV) (v : AV) (c : Prop) : Prop:=(∀ s,ah P Γ k as s (fun r s'=>r = v∧s' = s))∧c
def Tn (P : Program) (Γ : Nat→List AV) (N : Nat) (o : Oper) (v : AV) (C : Env→Prop) (E : Env) : Prop:=(∀ d,o.dst = some d→d < N)∧LW P Γ o E v∧C (bg E o.dst v)
theorem qz {dst : Option Tmp} {k : FuncId} {args : Array Operand} {aT : Array TypeId} {ty : TypeId} {pos : String} {after : Array Edge} {v : AV} {C : Env→Prop} {E : Env} :
    Tn P Γ N { dst:=dst,op:=.call { callee:=.value (.func k),args:=args,argTypes:=aT },type:=ty,pos:=pos,after:=after,guard:=none } v C E =
      ((∀ d,dst = some d→d < N)∧af P k = true∧We P Γ k (args.toList.map (aI Γ E)) v (C (bg E dst v))):=by
  apply propext;constructor
  · rintro ⟨h1,⟨_,h2⟩,h3⟩;exact ⟨h1,h2.2.2.1,h2.2.2.2,h3⟩
  · rintro ⟨h1,h2,h3,h4⟩;exact ⟨h1,⟨rfl,⟨rfl,rfl,h2,h3⟩⟩,h4⟩
def EX (P : Program) (Γ : Nat→List AV) (N : Nat) (ops : Array Oper) (fl : List Nat) (fz : List (Nat × Nat)) (gv : List (Nat × AV)) : Nat→List Oper→(Env→AS→Prop)→Env→AS→Prop
  | _,[],K,E,s=>K E s
  | k,o :: rest,K,E,s =>
    if fl.contains k = true then AX P Γ N ops [o] (EX P Γ N ops fl fz gv (k + 1) rest K) E s
    else match ji fz k with
      | some n=>mK ops o E∧(∀ d,o.dst = some d→d < N)∧EX P Γ N ops fl fz gv (k + 1) rest K (bg E o.dst (mq n)) s
      | none =>
        match ka gv k with
        | some v=>Tn P Γ N o v (fun E=>EX P Γ N ops fl fz gv (k + 1) rest K E s) E
        | none=>((∀ d,o.dst = some d→d < N)∧match bL P Γ ops o E with | some v=>EX P Γ N ops fl fz gv (k + 1) rest K (bg E o.dst v) s | none=>False)
theorem LY : ∃ f : Program→(Nat→List AV)→Nat→Array Oper→List Nat→List (Nat × Nat)→List (Nat × AV)→Nat→List Oper→(Env→AS→Prop)→Env→AS→Prop,f = EX:=⟨_,rfl⟩
noncomputable def Rx : Program→(Nat→List AV)→Nat→Array Oper→List Nat→List (Nat × Nat)→List (Nat × AV)→Nat→List Oper→(Env→AS→Prop)→Env→AS→Prop:=Classical.choose LY
theorem axz : Rx = EX:=Classical.choose_spec LY
theorem xw {fl : List Nat} {fz : List (Nat × Nat)} {gv : List (Nat × AV)} {k : Nat} {K : Env→AS→Prop} {E : Env} : Rx P Γ N ops fl fz gv k [] K E s = K E s:=by rw [axz]; rfl
theorem tq {fl : List Nat} {fz : List (Nat × Nat)} {gv : List (Nat × AV)} {k : Nat} {o : Oper} {rest : List Oper} {K : Env→AS→Prop} {E : Env} : Rx P Γ N ops fl fz gv k (o :: rest) K E s =
    if fl.contains k = true then AY P Γ N ops [o] (Rx P Γ N ops fl fz gv (k + 1) rest K) E s
    else match ji fz k with
      | some n=>mK ops o E∧(∀ d,o.dst = some d→d < N)∧Rx P Γ N ops fl fz gv (k + 1) rest K (bg E o.dst (mq n)) s
      | none =>
        match ka gv k with
        | some v=>Tn P Γ N o v (fun E=>Rx P Γ N ops fl fz gv (k + 1) rest K E s) E
        | none=>((∀ d,o.dst = some d→d < N)∧match bL P Γ ops o E with | some v=>Rx P Γ N ops fl fz gv (k + 1) rest K (bg E o.dst v) s | none=>False):=by rw [axz,ay]; rfl
theorem yD {fl : List Nat} {fz : List (Nat × Nat)} {gv : List (Nat × AV)} {K : Env→AS→Prop} : ∀ (L : List Oper) (k : Nat) {E : Env} {s : AS},(∀ i o n,L[i]? = some o→ji fz (k + i) = some n→J4 P N o n = true) →
    EX P Γ N ops fl fz gv k L K E s→oS P Γ N ops (v7 (yC fl fz gv) k L) K E s
  | [],k,E,s,_,h=>h
  | o :: L,k,E,s,hc,h=>by
    have JB : ∀ i o n,L[i]? = some o→ji fz (k + 1 + i) = some n→J4 P N o n = true:=fun i o' n h1 h2=>hc (i + 1) o' n (by simpa using h1) (by rw [show k + (i + 1) = k + 1 + i by omega]; exact h2);simp only [EX] at h;simp only [v7,oS,EV];cases hf : fl.contains k with
    | true =>
      rw [hf] at h;simp only [if_true] at h ⊢;have mono : ∀ {K K' : Env→AS→Prop} {E : Env} {s : AS},(∀ E s,K E s→K' E s)→AX P Γ N ops [o] K E s→AX P Γ N ops [o] K' E s:=fun hk h=>cf _ hk h;exact mono (fun E' s' hE=>yD L (k + 1) JB hE) h
    | false =>
      rw [hf] at h;simp only [Bool.false_eq_true,if_false] at h ⊢;cases hz : ji fz k with
      | some n =>
        rw [hz] at h;have hm : yC fl fz gv k = .OP:=(by unfold yC; rw [if_neg (by rw [hf]; simp),hz]);rw [hm];exact ⟨h.2.1,_,⟨h.1,J8 (hc 0 o n rfl (by simpa using hz))⟩,yD L (k + 1) JB h.2.2⟩
      | none =>
        rw [hz] at h;simp only at h;cases hg : ka gv k with
        | some v =>
          rw [hg] at h;have hm : yC fl fz gv k = .Gu v:=(by unfold yC; rw [if_neg (by rw [hf]; simp),hz]; simp only [hg]);rw [hm];obtain ⟨h1,h2,h3⟩:=h;exact ⟨h1,v,⟨rfl,h2⟩,yD L (k + 1) JB h3⟩
        | none =>
          rw [hg] at h;have hm : yC fl fz gv k = .val:=(by unfold yC; rw [if_neg (by rw [hf]; simp),hz]; simp only [hg]);rw [hm];refine ⟨h.1,?_⟩;have h:=h.2;split at h
          · rename_i v hv;exact ⟨v,hv,yD L (k + 1) JB h⟩
          · exact h.elim
theorem CZ {fl : List Nat} {fz : List (Nat × Nat)} {gv : List (Nat × AV)} {fr : List Nat} (h : CY P N ops fl fr fz = true) : tp ops (yC fl fz gv) fr = true∧(∀ i ∈ fr,dR P Γ N ops ((ops[i]?).getD default)) ∧
    ∀ i o n,ops.toList[i]? = some o→ji fz (0 + i) = some n→J4 P N o n = true:=by
  simp only [CY,Bool.and_eq_true] at h;obtain ⟨⟨⟨h1,h2⟩,h3⟩,h4⟩:=h;refine ⟨?_,fun i hi=>ET (List.all_eq_true.1 h3 i hi),fun i o n ho hn=>?_⟩
  · simp only [tp,Bool.and_eq_true];refine ⟨h1,?_⟩;unfold yB;unfold EW at h2;simpa only [EV] using h2
  · rw [Nat.zero_add] at hn;have sG : ops[i]? = some o:=(by simpa using ho);have hi : i < ops.size:=(Array.getElem?_eq_some_iff.1 sG).1;have:=List.all_eq_true.1 h4 i (by simpa using hi);rw [sG,hn] at this;exact this
section
variable {Q : Exit→Env→AS→Prop} {E : Env}
end
end Go.AM
namespace Go.AM
open Go Go.RowKit
variable {rd : Option Nat} {P : Program} {Γ : Nat→List AV} {G : Gh} {s : AS} {w : World} {N : Nat} {ops : Array Oper}
theorem tr {E : Env} {Q : Exit→Env→AS→Prop} (hm : P.follows .mixedOrders = true) (mk : Nat→Mk) (fr : List Nat) {id : Nat} (ie : tp ops mk fr = true) (Ea : ∀ i ∈ fr,dR P Γ N ops ((ops[i]?).getD default))
    (h : oS P Γ N ops (qy ops mk) (fun E' s'=>∃ gB fD,fm Γ N E' s' gB fD∧(∀ i,i ∉ bU ops.toList→gB i = E' i)∧Q .normal gB fD) E s) :
    ck P Γ N (.region id ops true) Q E s:=by
  intro G a w hr;refine wpIn_region_any hm ?_;have vM : left ops (Array.replicate ops.size false) = List.range ops.size:=by
    unfold left;rw [List.filter_eq_self];intro i hi;have : i < ops.size:=(by simpa using hi);simp [this]
  have uy : Rel Γ N G E s a w.drew:=⟨hr.st.drew,hr.size,hr.tmps,hr.defers⟩;refine CX Ea ie ops.size (Array.replicate ops.size false) (by simp) (by rw [vM]; simp) ?_ (by rw [vM]; exact uN _ h) uy ?_
  · intro i o ho hl;have : i < ops.size:=(Array.getElem?_eq_some_iff.1 ho).1;simp [this] at hl
  · intro G' E' s' a' w' h1 h2 h3;obtain ⟨⟨gB,fD,k1,k2,k3⟩,k4⟩:=h3;obtain ⟨sA,q1,q2⟩:=k1 G' a' w' h2;refine ⟨sA,gB,fD,h1.trans q1,q2,k3,fun i hi=>?_⟩;have bc : i ∉ bU ops.toList:=fun hm=>hi hm;rw [k2 i bc];refine k4 i fun hm=>hi ?_;have : (qy ops mk).map (·.1) = ops.toList:=by
      apply List.ext_getElem?;intro j;simp only [qy,List.getElem?_map];by_cases hj : j < ops.size
      · simp [hj,lE]
      · simp [hj]
    have OK : i ∈ bU ((qy ops mk).map (·.1)):=hm;rw [this] at OK;exact OK
variable {Q : Exit→Env→AS→Prop} {E : Env}
theorem C0 (hm : P.follows .mixedOrders = true) (d1 d2 : Nat) (fl : List Nat) (fz : List (Nat × Nat)) (gv : List (Nat × AV)) (fr : List Nat) {id : Nat} {L : List Oper} {y : Code} (ie : CY P N L.toArray fl fr fz = true) (OO : d1 ∈ bU L) (Le : d2 ∈ bU L) (dp : d1≠d2)
    (h : ∀ K : Env→AS→Prop,(∀ E s o1 o2 Gt Gr,E d1 = .ptr o1 0→E d2 = .ptr o2 0→s.aq o1 = none→(s.set o1 Gt).aq o2 = none→ck P Γ N y Q (aF (aF E d2 (.dq Gr)) d1 (.dq Gt)) s→K E ((s.set o1 Gt).set o2 Gr))→Rx P Γ N L.toArray fl fz gv 0 L K E s) :
    ck P Γ N (.seq (.region id L.toArray true) y) Q E s:=by
  obtain ⟨h1,h2,h3⟩:=CZ (Γ:=Γ) (gv:=gv) ie;refine jq (tr hm (yC fl fz gv) fr h1 h2 ?_);have:=h (fun E' s'=>∃ gB fD,fm Γ N E' s' gB fD∧(∀ i,i ∉ bU L→gB i = E' i)∧az (ck P Γ N y Q) Q .normal gB fD) ?_
  · rw [axz] at this;rw [Hg];exact yD L 0 h3 this
  · intro E' s' o1 o2 Gt Gr h1 h2 h3 h4 h5;refine ⟨aF (aF E' d2 (.dq Gr)) d1 (.dq Gt),s',?_,?_,h5⟩
    · have g1:=fm.jf (Γ:=Γ) (N:=N) (E:=E') (s:=(s'.set o1 Gt).set o2 Gr) (d:=d2) h2 (AS.aa _ _ _);rw [AS.drop_set h4] at g1;have g2:=fm.jf (Γ:=Γ) (N:=N) (E:=aF E' d2 (.dq Gr)) (s:=s'.set o1 Gt) (d:=d1) (by rw [fu _ _ dp]; exact h1) (AS.aa _ _ _);rw [AS.drop_set h3] at g2;exact g1.trans g2
    · intro i hi;rw [fu _ _ (fun e=>hi (by rw [e]; exact OO)),fu _ _ (fun e=>hi (by rw [e]; exact Le))]
theorem EY {s : AS} {o1 o2 : Nat} (h : o1≠o2) (a b c d : List AV) : (((s.set o1 a).set o2 b).set o1 c).set o2 d = (s.set o1 c).set o2 d:=by
  rw [AS.IE _ h,AS.set_set]
end Go.AM
namespace Go.AM
open Go Go.RowKit
variable {P : Program} {Γ : Nat→List AV} {G : Gh} {s : AS} {w : World} {N : Nat}
theorem eL.aA.append {a b c d : List AV} (h : eL.aA a c) (k : eL.aA b d) : eL.aA (a ++ b) (c ++ d):=by
  intro G v hv;have hl:=hv.length;have h1:=hv.take a.length;have h2:=hv.drop a.length;rw [List.take_left] at h1;rw [List.drop_left] at h2;have:=ar.append (h G _ h1) (k G _ h2);rwa [List.take_append_drop] at this
def AS.tells (Γ : Nat→List AV) (s s' : AS) : Prop:=∀ G w,aN Γ G s w→aN Γ G s' w
theorem aN.PA {o : Nat} {cs cs' : List AV} (h : aN Γ G s w) (ho : s.aq o = some cs) (hw : eL.aA cs cs') : aN Γ G (s.set o cs') w:=by
  refine ⟨h.ro,?_,h.cX,h.inj,h.own,h.cN,h.bR,h.cD,h.cb,h.below,h.others,h.base,h.ia,h.soft⟩;intro o' ds hd;by_cases e : o' = o
  · subst e;rw [AS.aa] at hd;cases hd;obtain ⟨b,vs,h1,h2,h3,h4⟩:=h.aq o' cs ho;exact ⟨b,vs,h1,hw G vs h2,h3,h4⟩
  · rw [AS.ae _ e] at hd;exact h.aq o' ds hd
theorem AS.jj {o : Nat} {cs cs' : List AV} (ho : s.aq o = some cs) (hw : eL.aA cs cs') : AS.tells Γ s (s.set o cs'):=fun _ _ h=>h.PA ho hw
theorem kX {c : Code} {Q : Exit→Env→AS→Prop} {E : Env} {s s' : AS} (h : AS.tells Γ s s') (k : ck P Γ N c Q E s') : ck P Γ N c Q E s :=
  fun G a w hr=>k G a w ⟨h G w hr.st,hr.size,hr.tmps,hr.defers⟩
def cO (sz : Nat) (s0 s : AS) (x : AV) (n : Nat) (cs : List AV) : Prop:=(x = bZ∧n = 0∧cs = [])∨∃ t e,x = .sl sz n cs (.own t e)∧s.own t = some e∧s0.own t = none
theorem cO.aA {sz : Nat} {s0 s : AS} {x : AV} {n : Nat} {cs : List AV} (h : cO sz s0 s x n cs) : x.aA (.sl sz n cs .any):=by
  rcases h with ⟨rfl,rfl,rfl⟩ | ⟨t,e,rfl,_,_⟩
  · exact AV.aJ
  · exact AV.bJ
theorem cO.one {sz : Nat} {s0 s : AS} {x : AV} {n : Nat} {cs : List AV} (h : cO sz s0 s x n cs) : x.one = true:=by
  rcases h with ⟨rfl,_,_⟩ | ⟨t,e,rfl,_,_⟩
  · rfl
  · rfl
theorem cO.nil (sz : Nat) (s0 s : AS) : cO sz s0 s bZ 0 []:=.inl ⟨rfl,rfl,rfl⟩
theorem cO.own {sz : Nat} {s0 s s' : AS} {x : AV} {n : Nat} {cs : List AV} (h : cO sz s0 s x n cs) (k : ∀ t e,s.own t = some e→s0.own t = none→s'.own t = some e) : cO sz s0 s' x n cs:=by
  rcases h with h | ⟨t,e,h1,h2,h3⟩
  · exact .inl h
  · exact .inr ⟨t,e,h1,k t e h2 h3,h3⟩
end Go.AM
