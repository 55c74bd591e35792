/- An abstract machine for the model and the rules of its walk, each proved sound over the model; no condition. -/
import Derived.Test.YtbiefppedlodiaaGreatDoorAMp5
import Derived.RangeFuncIn
import Derived.RangeFuncRecord
import Derived.RangeFuncSeq
import Derived.RangeFuncLeaves
import Derived.Test.YtbiefppedlodiaaGreatDoorAMp4
import Derived.SizedLaws
import Derived.OpenShut
set_option linter.unusedSimpArgs false
set_option linter.unusedVariables false
namespace Go.AM
open Go Go.RowKit
variable {rd : Option Nat} {P : Program} {Γ : Nat→List AV} {G : Gh} {s : AS} {w : World}
theorem oF {N : Nat} {E : Env} {Q : Exit→Env→AS→Prop} {id : Nat} (L1 L2 : List Oper) {o : Oper} {code : Code} (hg : o.guard = none) (hd : ∀ d,o.dst = some d→d < N)
    (h : AY P Γ N (L1 ++ o :: L2).toArray L1 (fun E1 s1=>∃ K1 : AV→AS→Prop,(∀ G a w,Rel Γ N G E1 s1 a w→cY P Γ G K1 ((execOp a.eval o).run P w)) ∧
      ∀ r s2,K1 r s2→AY P Γ N (L1 ++ o :: L2).toArray L2 (fun E' s'=>ch P Γ N code Q E' s') (bu E1 o.dst r) s2) E s) :
    ch P Γ N (.seq (.region id (L1 ++ o :: L2).toArray false) code) Q E s:=by
  rw [ay] at h;refine ke ?_;intro G a w hr;refine wpIn_region ?_;have bR : ∀ ops : Array Oper,(List.range ops.size).map (ops[·]?) = ops.toList.map some:=by
    intro ops;apply List.ext_getElem?;intro i;simp only [List.getElem?_map];by_cases hi : i < ops.size
    · simp [hi]
    · simp [hi]
  have oG:=bR (L1 ++ o :: L2).toArray;generalize hI : List.range (L1 ++ o :: L2).toArray.size = I at oG;have h1 : (I.take L1.length).map ((L1 ++ o :: L2).toArray[·]?) = L1.map some:=by
    rw [List.map_take,oG]; simp
  have h2 : (I.drop L1.length).map ((L1 ++ o :: L2).toArray[·]?) = (o :: L2).map some:=by
    rw [List.map_drop,oG]; simp
  rw [← List.take_append_drop L1.length I];generalize I.take L1.length = I1 at h1;generalize I.drop L1.length = I2 at h2;cases I2 with
  | nil=>simp at h2
  | cons i I2 =>
    simp only [List.map_cons,List.cons.injEq] at h2;refine dG L1 I1 (i :: I2) h1 (dy _ h) hr ?_;rintro G1 E1 s1 a1 w1 gl pZ ⟨⟨K1,gC,hk⟩,Bm⟩;rw [wpOpsIn_cons];simp only [wpOpIn,h2.1];rw [if_pos (dI hg)];refine (Oper.mh pZ hd (gC G1 a1 w1 pZ) ?_);intro G3 r s3 a3 w3 O5 p5 hK;refine kG L2 I2 h2.2 (dy _ (hk r s3 hK)) p5 ?_;rintro G4 E4 s4 a4 w4 Tz Cs ⟨QL,Jj⟩;refine ⟨G4,E4,s4,gl.trans (O5.trans Tz),Cs,QL,?_⟩;intro i hi;have mem : ∀ L : List Oper,i ∈ ct L↔∃ o ∈ L,o.dst = some i:=(fun L=>by simp [ct,List.mem_filterMap]);have aX : ¬ ∃ o' ∈ L1 ++ o :: L2,o'.dst = some i:=fun hm=>hi ((mem _).2 hm);have m1 : i ∉ ct L1:=fun hm=>aX (by obtain ⟨o,k1,k2⟩:=(mem _).1 hm; exact ⟨o,by simp [k1],k2⟩);have m2 : i ∉ ct L2:=fun hm=>aX (by obtain ⟨o,k1,k2⟩:=(mem _).1 hm; exact ⟨o,by simp [k1],k2⟩);have m3 : o.dst≠some i:=fun e=>aX ⟨o,by simp,e⟩;rw [Jj i m2,cp m3,Bm i m1]
theorem Bn {N : Nat} {E : Env} {Q : Exit→Env→AS→Prop} {id : Nat} {L2 : List Oper} {o : Oper} {code : Code} (hg : o.guard = none) (hd : ∀ d,o.dst = some d→d < N) (K1 : AV→AS→Prop)
    (gC : ∀ G a w,Rel Γ N G E s a w→cY P Γ G K1 ((execOp a.eval o).run P w))
    (h : ∀ r s2,K1 r s2→AY P Γ N (o :: L2).toArray L2 (fun E' s'=>ch P Γ N code Q E' s') (bu E o.dst r) s2) :
    ch P Γ N (.seq (.region id (o :: L2).toArray false) code) Q E s :=
  oF [] L2 hg hd (by rw [ER]; exact ⟨K1,gC,h⟩)
theorem Dk {ρ : Operand→AV} {ρ' : Operand→Value} {o : Oper} {T : TypeId} {len : Nat} {parts : Array (Nat × Operand)} {cs z : List AV} {e : TypeId} (ho : o.op = .buildSlice T len parts)
    (hu : P.underlying T = some (.slice e)) (hz : bg P e = some z) (c1 : P.cellsOf e≠0) (c2 : len * P.cellsOf e≤2 ^ 24) (c3 : z.length = P.cellsOf e)
    (h1 : iw (fun i=>some (i * P.cellsOf e,P.cellsOf e)) (mI (len * P.cellsOf e) z) (parts.toList.map fun p=>(p.1,ρ p.2)) = some cs) (hρ : ∀ x,au G (ρ x) (ρ' x)) (hs : aN Γ G s w) :
    cY P Γ G (fun r s'=>∃ ob,s.av ob = none∧r = .iv ob 0 (P.cellsOf e) len len∧s' = s.set ob cs) ((execOp ρ' o).run P w):=by
  obtain ⟨v,hv,rfl⟩:=dr hz;have cW : v.cells.toList≠[]:=by
    intro e';rw [e'] at c3;simp at c3;omega
  obtain ⟨vs,h2,h3⟩:=iY (G:=G) (qs:=(parts.map fun p=>(p.1,ρ' p.2)).toList) _ h1 (by simpa using eD.of_map hρ parts.toList) (qw (len * P.cellsOf e) cW);obtain ⟨ob,k1,k2,k3,k4⟩:=hs.newObj h3 e;refine (show execOp ρ' o = (do pure (.value (← Instr.buildSlice T len (parts.map fun p=>(p.1,ρ' p.2))))) by simp only [execOp,ho]) ▸ dt ⟨_,.slice (some ⟨w.heap.size,0,none⟩) len len,_,_,_,?_,k2,k3,?_,ob,k1,rfl,rfl⟩
  · simp only [Instr.buildSlice,Sem.run_bind,run_underlying hu,Result.andThen_ok,aR c1];rw [if_neg (by omega)];by_cases h0 : len * P.cellsOf e = 0
    · have jo : (Array.range (len * P.cellsOf e)).map (fun i=>(#[] : Array Value)[i % (#[] : Array Value).size]!) = ((List.range (len * P.cellsOf e)).map fun i=>v.cells.toList.toArray[i % v.cells.toList.toArray.size]!).toArray:=by
        rw [h0]; simp
      rw [if_pos h0];simp only [Sem.run_bind,Sem.run_pure,Result.andThen_ok,jo];simp only [h2];simp [newRow]
    · have jo : (Array.range (len * P.cellsOf e)).map (fun i=>v.cells[i % v.cells.size]!) = ((List.range (len * P.cellsOf e)).map fun i=>v.cells.toList.toArray[i % v.cells.toList.toArray.size]!).toArray:=by
        apply Array.ext';simp
      rw [if_neg h0];simp only [Sem.run_bind,hv,Sem.run_pure,Result.andThen_ok,jo];simp only [h2];simp [newRow]
  · simp only [au];exact ⟨_,k4,rfl,Nat.le_refl _⟩
end Go.AM
namespace Go.AM
open Go Go.RowKit
variable {P : Program} {Γ : Nat→List AV} {G : Gh} {s : AS} {w : World} {N : Nat} {E : Env}
theorem Oper.uM {l : Option Nat} {a : Act} {o : Oper} {K : AV→AS→Prop} {next : Act→World→Prop} {Q : Exit→Act→World→Prop} (hnd : ∀ c,o.op≠.defer c) (hr : Rel Γ N G E s a w) (hd : ∀ d,o.dst = some d→d < N)
    (h : cY P Γ G K ((execOp a.eval o).run P w)) (hn : ∀ G' r s' a' w',G.le G'→Rel Γ N G' (bu E o.dst r) s' a' w'→K r s'→next a' w') : o.wpIn (te l) 0 P a w next Q:=by
  refine ⟨fun _ _=>trivial,?_⟩;rw [Oper.semAt_eq _ _ _ hnd];generalize (execOp a.eval o).run P w = R at h;cases R with
  | ok n w' =>
    cases n <;> simp only [cY] at h;case value v =>
      obtain ⟨G',r,s',h1,h2,h3,h4⟩:=h;simp only [Oper.uponIn];exact hn G' r s' _ _ h1 (hr.put h1 h2 h3 hd) h4
    case skip =>
      obtain ⟨G',s',h1,h2,h3⟩:=h;simp only [Oper.uponIn];exact hn G' (.v undef) s' _ _ h1 (hr.put h1 h2 (by simp [au]) hd) h3
    case enter f args =>
      simp only [Oper.uponIn];refine ⟨(fun e=>by cases e),CallsIn.mono (F:=Fence.wide) (callsIn_wide.2 h) ?_⟩;rintro e vn ⟨G',r,v,s',rfl,h1,h2,h3,h4⟩;exact hn G' r s' _ _ h1 (hr.put h1 h2 h3 hd) h4
  | halt x w'=>simp only [cY] at h
theorem uN {ρ : Operand→AV} {K : AV→AS→Prop} {op : Op} (h : bW P Γ ρ s K op) (c : Call) : op≠.defer c:=by
  rintro rfl;simp [bW,cy,cT] at h
theorem Ad {l : Option Nat} {a : Act} {ops : Array Oper} {i : Nat} {I : List Nat} {o : Oper} {L : List Oper} {K : Env→AS→Prop} {Q : Exit→Act→World→Prop} (ho : ops[i]? = some o)
    (h : AX P Γ N ops (o :: L) K E s) (hr : Rel Γ N G E s a w) (hn : ∀ G' E' s' a' w',G.le G'→Rel Γ N G' E' s' a' w'→AX P Γ N ops L K E' s'→wpOpsIn (te l) 0 P ops Q I a' w') : wpOpsIn (te l) 0 P ops Q (i :: I) a w:=by
  simp only [AX] at h;obtain ⟨hd,h⟩:=h;simp only [wpOpsIn,ho];split at h
  · rename_i hg;rw [if_pos (dI hg)];exact Oper.uM (uN h) hr hd (ja o h hr.eval hr.st) fun G' r s' a' w' h1 h2 h3=>hn G' _ s' a' w' h1 h2 h3
  · rename_i j want hg;split at h
    · exact h.elim
    · rename_i d hj;split at h
      · rename_i t hE;have hy:=wz hr hj hE;have hw : Region.wanted o (yielded ops a.tmps) = (t == want):=(by simp [Region.wanted,hg,hy]);split at h
        · rename_i ht;rw [if_pos (by rw [hw]; simpa using ht)];exact Oper.uM (uN h) hr hd (ja o h hr.eval hr.st) fun G' r s' a' w' h1 h2 h3=>hn G' _ s' a' w' h1 h2 h3
        · rename_i ht;rw [if_neg (by rw [hw]; simpa using ht)];exact ⟨fun _ _=>trivial,hn G _ s _ _ (.refl G) (hr.put (.refl G) hr.st (by simp [au]) hd) h⟩
      · rename_i c hE;have hy:=rG hr hj hE;have hw : Region.wanted o (yielded ops a.tmps) = false:=(by simp [Region.wanted,hg,hy]);rw [if_neg (by rw [hw]; simp)];exact ⟨fun _ _=>trivial,hn G _ s _ _ (.refl G) (hr.put (.refl G) hr.st (by simp [au]) hd) h⟩
      · exact h.elim
theorem gO {l : Option Nat} {ops : Array Oper} {Q : Exit→Act→World→Prop} {K : Env→AS→Prop} : ∀ (L : List Oper) (I J : List Nat) {G : Gh} {E : Env} {s : AS} {a : Act} {w : World},I.map (ops[·]?) = L.map some→AX P Γ N ops L K E s→Rel Γ N G E s a w →
    (∀ G' E' s' a' w',G.le G'→Rel Γ N G' E' s' a' w'→K E' s'→wpOpsIn (te l) 0 P ops Q J a' w')→wpOpsIn (te l) 0 P ops Q (I ++ J) a w
  | [],I,J,G,E,s,a,w,hI,h,hr,hq=>by
    have : I = []:=(by simpa using hI);subst this;exact hq G E s a w (.refl G) hr h
  | o :: L,I,J,G,E,s,a,w,hI,h,hr,hq=>by
    cases I with
    | nil=>simp at hI
    | cons i I =>
      simp only [List.map_cons,List.cons.injEq] at hI;exact Ad hI.1 h hr fun G' E' s' a' w' h1 h2 h3=>gO L I J hI.2 h3 h2 fun uB jq iq yH vn k1 k2 k3=>hq uB jq iq yH vn (h1.trans k1) k2 k3
theorem mW {l : Option Nat} {ops : Array Oper} {Q : Exit→Act→World→Prop} {K : Env→AS→Prop} : ∀ (L : List Oper) (I : List Nat) {G : Gh} {E : Env} {s : AS} {a : Act} {w : World},I.map (ops[·]?) = L.map some→AX P Γ N ops L K E s→Rel Γ N G E s a w →
    (∀ G' E' s' a' w',G.le G'→Rel Γ N G' E' s' a' w'→K E' s'→Q .normal a' w')→wpOpsIn (te l) 0 P ops Q I a w
  | [],I,G,E,s,a,w,hI,h,hr,hq=>by
    have : I = []:=(by simpa using hI);subst this;exact hq G E s a w (.refl G) hr h
  | o :: L,I,G,E,s,a,w,hI,h,hr,hq=>by
    cases I with
    | nil=>simp at hI
    | cons i I =>
      simp only [List.map_cons,List.cons.injEq] at hI;exact Ad hI.1 h hr fun G' E' s' a' w' h1 h2 h3=>mW L I hI.2 h3 h2 fun uB jq iq yH vn k1 k2 k3=>hq uB jq iq yH vn (h1.trans k1) k2 k3
theorem kN {l : Option Nat} {id : Nat} {ops : Array Oper} {Q : Exit→Act→World→Prop} {K : Env→AS→Prop} {a : Act} (h : AY P Γ N ops ops.toList K E s) (hr : Rel Γ N G E s a w)
    (hq : ∀ G' E' s' a' w',G.le G'→Rel Γ N G' E' s' a' w'→K E' s'→Q .normal a' w') : (Code.region id ops false).wpIn (te l) 0 P Q a w:=by
  rw [ay] at h;refine wpIn_region (mW ops.toList _ ?_ h hr hq);apply List.ext_getElem?;intro i;simp only [List.getElem?_map];by_cases hi : i < ops.size
  · simp [hi]
  · simp [hi]
theorem Dl {W : World} {k : Nat} {o o' : Obj} (hk : W.heap[k]? = some o) (ho : ∀ c T f,o≠.cells c T f) (ru : ∀ c T f,o'≠.cells c T f) (b j : Nat) : (W.putObj k o').cell? ⟨b,j,none⟩ = W.cell? ⟨b,j,none⟩:=by
  by_cases e : b = k
  · subst e;have h1:=World.putObj_heap_same (w:=W) (o:=o') (Array.getElem?_eq_some_iff.1 hk).1;simp only [World.cell?,h1,hk];cases o <;> cases o' <;> first | rfl | exact absurd rfl (ho _ _ _) | exact absurd rfl (ru _ _ _)
  · exact World.cell?_of_block (World.putObj_heap_other e)
theorem yO {W : World} {k : Nat} {o o' : Obj} (hk : W.heap[k]? = some o) (ho : ∀ c T f,o≠.cells c T f) (ru : ∀ c T f,o'≠.cells c T f) (b j : Nat) : (W.putObj k o').frozen? ⟨b,j,none⟩ = W.frozen? ⟨b,j,none⟩:=by
  by_cases e : b = k
  · subst e;have h1:=World.putObj_heap_same (w:=W) (o:=o') (Array.getElem?_eq_some_iff.1 hk).1;simp only [World.frozen?,h1,hk];cases o <;> cases o' <;> first | rfl | exact absurd rfl (ho _ _ _) | exact absurd rfl (ru _ _ _)
  · exact World.frozen?_of_block (World.putObj_heap_other e)
theorem aN.putObj {W : World} {k : Nat} {o o' : Obj} (h : aN Γ G s W) (hk : W.heap[k]? = some o) (ho : ∀ c T f,o≠.cells c T f) (ru : ∀ c T f,o'≠.cells c T f) (hB : G.w0.heap.size≤k) (hB' : G.B≤k) : aN Γ G s (W.putObj k o'):=by
  have hg : W.grownBy (W.putObj k o') (some k):=⟨rfl,rfl,rfl,by simp [World.putObj],fun i _ hi=>World.putObj_heap_other (fun e=>hi (by rw [e]))⟩;refine h.A7 (fun b j=>Dl hk ho ru b j) (fun b j _ _=>yO hk ho ru b j) (by simp [World.putObj]) ?_ ?_ ?_
  · exact (Below.refl _ _).grown hg (by have:=(Array.getElem?_eq_some_iff.1 hk).1; omega) (fun i e=>by cases e; omega)
  · intro i x hi hx;have bI:=(Array.getElem?_eq_some_iff.1 hi).1;rw [World.putObj_heap_other (by omega)];exact h.others i x hi hx
  · intro b c T lo hi hb hc;by_cases e : b = k
    · subst e;rw [World.putObj_heap_same (Array.getElem?_eq_some_iff.1 hk).1] at hc;cases hc;exact absurd rfl (ru _ _ _)
    · rw [World.putObj_heap_other e] at hc;exact h.soft b c T lo hi hb hc
def O6 (P : Program) (Γ : Nat→List AV) (gf : FuncId) (b6 : List AV) (xs : List AV) : Prop :=
  ∀ (S : Nat→AS) (l : Nat) (G : Gh) (W : World) (lb : List Value),G.df = []→aq G b6 lb→aN Γ G (S 0) W →
    (∀ i x G1 u W1,xs[i]? = some x→G.le G1→aN Γ G1 (S i) W1→au G1 x u→YieldAt Fence.wide 0 P l #[u] W1 fun e W'=>e = .returned (.bool true)∧∃ G2,G1.le G2∧aN Γ G2 (S (i + 1)) W') →
    CallsIn Fence.wide 0 P gf (#[.func (.yield l) #[] #[]] ++ lb.toArray) W fun e W'=>(∃ v,e = .returned v)∧∃ G2,G.le G2∧aN Γ G2 (S xs.length) W'
theorem xe {a : Act} {g : Operand} {p : Tmp} {assign body : Code} {gf : FuncId} {b6 xs : List AV} (hr : Rel Γ N G E s a w) (tn : G.df = []) (hg : aL Γ E g = .pI gf b6) (IG : af P gf = true) (IH : O6 P Γ gf b6 xs)
    (hp : p < N) (S : Nat→AS) (hS : S 0 = s) (E1 : AV→Env)
    (MK : ∀ (l i : Nat) (x : AV) (G1 : Gh) (a1 : Act) (W : World),xs[i]? = some x→Rel Γ N G1 (aF E p x) (S i) a1 W →
      assign.wpIn (te (some l)) 0 P (fun e a' W'=>e = .normal∧∃ G2,G1.le G2∧Rel Γ N G2 (E1 x) (S i) a' W') a1 W)
    (TA : ∀ (l i : Nat) (x : AV) (G1 : Gh) (a1 : Act) (W : World),xs[i]? = some x→Rel Γ N G1 (E1 x) (S i) a1 W →
      body.wpIn (te (some l)) 0 P (fun e a' W'=>e = .normal∧∃ G2,G1.le G2∧aN Γ G2 (S (i + 1)) W') a1 W) :
    (Code.rangeFunc g #[p] assign body).wpIn Fence.wide 0 P (fun e a' w'=>e = .normal∧∃ D G',G.le G'∧w.heap.size≤D∧w'.heap[D]? = some (.deferred (some [])) ∧
      a' = { a with defers:={ target:=.collected D,args:=#[] } :: a.defers }∧aN Γ G' (S xs.length) w') a w:=by
  have QM:=hr.eval g;rw [hg] at QM;simp only [au] at QM;obtain ⟨lb,Z2,QN⟩:=QM;have Mx : G.w0.heap.size≤w.heap.size:=hr.st.below.size;have hBw : G.B≤w.heap.size:=hr.st.base;refine wpIn_rangeFunc ?_;intro fn TB;obtain ⟨rec,oH⟩ : ∃ rec : LoopState→Option Code→Loop,rec = fun st pe=>{ state:=st,pending:=pe,fn,tmps:=a.tmps,params:=#[p],assign,body,defers:=w.heap.size }:=⟨_,rfl⟩;obtain ⟨W1,ML⟩ : ∃ W1,(w.alloc (.deferred (some []))).alloc (.loop (rec .ready none)) = W1:=⟨_,rfl⟩;have QO : W1.heap[w.heap.size + 1]? = some (.loop (rec .ready none)):=by
    rw [← ML]; have:=World.alloc_heap_new (w.alloc (.deferred (some []))) (.loop (rec .ready none)); rwa [World.size_alloc] at this
  have kf : W1.heap[w.heap.size]? = some (.deferred (some [])):=by
    rw [← ML]; exact (Below.heap_alloc _ _ _ (by simp)).trans (World.alloc_heap_new w _)
  have ik : aN Γ G s W1:=by
    rw [← ML]; exact (hr.st.alloc _ (by intro c T lo hi e; cases e)).alloc _ (by intro c T lo hi e; cases e)
  refine ⟨w.heap.size + 1,[{ target:=.collected w.heap.size,args:=#[] }],W1,{ target:=.fn (.func gf) lb.toArray,args:=#[.func (.yield (w.heap.size + 1)) #[] #[]] },W1,gf,
    #[.func (.yield (w.heap.size + 1)) #[] #[]] ++ lb.toArray,W1,?_,?_,?_,?_,(fun e=>by cases e),?_⟩
  · rw [← ML,oH]; exact run_enterLoop_outer _ _ _ _ _
  · simp only [resolve,Z2];simp [go_sem]
  · intro f' _; trivial
  · have:=mQ (w:=W1) IG (#[.func (.yield (w.heap.size + 1)) #[] #[]] ++ lb.toArray);simpa [invoke,go_sem] using this
  · have Z3 : aN Γ (G.setW W1) s W1:=ik.setW;refine (IH S (w.heap.size + 1) (G.setW W1) W1 lb tn (aq.sub (G.fS W1) _ _ QN) (hS ▸ Z3) ?_).mono ?_
    · rintro i x G1 u W hx hle h2 hu;have HE : G1.w0 = W1:=hle.w0;have QP : G1.B = G.B:=hle.B;have HF : cX W1 W:=(by have:=h2.others; rwa [HE] at this);have hl:=HF _ _ QO (by intros; simp);have hk:=HF _ _ kf (by intros; simp);have Z4 : Below G.B W1 W:=(by have:=h2.below; rwa [HE,QP] at this);obtain ⟨q1,q2⟩:=ik.rz hle h2;have bI : w.heap.size + 1 < W.heap.size:=(Array.getElem?_eq_some_iff.1 hl).1;have hy:=run_yield (P:=P) (args:=#[u]) hl (by rw [oH]; rfl);rw [oH] at hy;refine ⟨fn,_,assign,body,hy,roundIn_of_wpIn TB ?_⟩;have Jk : Rel Γ N ((G1.setW G.w0).setW W) (aF E p x) (S i) { tmps:=((#[p] : Array Tmp).zip #[u]).foldl (fun t (p,v)=>t.setIfInBounds p v) a.tmps,defers:=[] } W:=by
        have e3 : ((#[p] : Array Tmp).zip #[u]).foldl (fun t (p,v)=>t.setIfInBounds p v) a.tmps = a.tmps.setIfInBounds p u:=(by simp);rw [e3];refine ⟨q1.setW,by simp [hr.size],fun k=>?_,by rw [show ((G1.setW G.w0).setW W).df = G1.df from rfl,hle.df]; exact tn.symm⟩;refine au.sub (G:=G1.setW G.w0) (Gh.fS _ _) _ _ ?_;simp only [aF];split
        · rename_i e;subst e;have : k < a.tmps.size:=(by rw [hr.size]; exact hp);simpa [Array.getD,this] using au.sub (G1.fS G.w0) _ _ hu
        · rename_i e;have:=au.mono q2 _ _ (hr.tmps k);simp only [Array.getD_eq_getD_getElem?] at this ⊢;rw [Array.getElem?_setIfInBounds_ne (by omega)];exact this
      refine wpIn_mono (MK (w.heap.size + 1) i x _ _ W hx Jk) ?_;rintro e a1 Wa ⟨rfl,Ga,yP,HG⟩;have QQ : cX W Wa:=by
        have:=HG.st.others;rwa [show Ga.w0 = W from yP.w0] at this
      have TC : Below G.B W Wa:=by
        have:=HG.st.below;rwa [show Ga.w0 = W from yP.w0,show Ga.B = G.B from yP.B.trans QP] at this
      have QR:=QQ _ _ hl (by intros; simp);have Z5:=QQ _ _ hk (by intros; simp);obtain ⟨Z6,gb2⟩:=q1.rz yP HG.st;refine ⟨_,run_beginRound QR (by rw [oH]),?_⟩;have Jl : w.heap.size + 1 < Wa.heap.size:=(Array.getElem?_eq_some_iff.1 QR).1;obtain ⟨W2,Jm⟩ : ∃ W2,Wa.putObj (w.heap.size + 1) (.loop { rec .ready none with state:=.busy }) = W2:=⟨_,rfl⟩;have EC : W2.heap[w.heap.size + 1]? = some (.loop { rec .ready none with state:=.busy }):=(by rw [← Jm]; exact World.putObj_heap_same Jl);have SR : Ga.B = G.B:=yP.B.trans QP;have nY : aN Γ (Ga.setW G.w0) (S i) W2:=by
        rw [← Jm];exact Z6.putObj QR (by intros; simp) (by intros; simp) (by show G.w0.heap.size≤_; omega) (by show Ga.B≤_; omega)
      rw [Jm];have wF : Rel Γ N ((Ga.setW G.w0).setW W2) (E1 x) (S i) a1 W2 :=
        ⟨nY.setW,HG.size,fun k=>au.sub (G:=Ga) (G':=(Ga.setW G.w0).setW W2) ⟨rfl,rfl,rfl,rfl⟩ _ _ (HG.tmps k),HG.defers⟩
      refine wpIn_mono (TA (w.heap.size + 1) i x _ _ W2 hx wF) ?_;rintro e a3 W3 ⟨rfl,G2,g1,g2⟩;have QS : G2.w0 = W2:=g1.w0;have TD : G2.B = G.B:=g1.B.trans SR;have Mt : cX W2 W3:=by
        have:=g2.others;rwa [QS] at this
      have TE : Below G.B W2 W3:=by
        have:=g2.below;rwa [QS,TD] at this
      have Hq:=Mt _ _ EC (by intros; simp);obtain ⟨g3,g4⟩:=nY.rz g1 g2;have p5 : (Instr.endRound (w.heap.size + 1) none).run P W3 = .ok (.bool true) (W3.putObj (w.heap.size + 1) (.loop (rec .ready none))):=by
        have:=run_endRound (P:=P) none Hq;rw [oH] at this ⊢;exact this
      have yQ : w.heap.size + 1 < W3.heap.size:=(Array.getElem?_eq_some_iff.1 Hq).1;have L9:=g3.putObj (o':=.loop (rec .ready none)) Hq (by intros; simp) (by intros; simp) (by show G.w0.heap.size≤_; omega) (by show G2.B≤_; omega);have TF : ∀ (V : World) (o : Obj),w.heap.size + 1 < V.heap.size→Below G.B V (V.putObj (w.heap.size + 1) o):=fun V o hV =>
        (Below.refl _ _).grown (row:=some (w.heap.size + 1)) ⟨rfl,rfl,rfl,by simp [World.putObj],fun i _ hi=>World.putObj_heap_other (fun e=>hi (by rw [e]))⟩ (by omega) (fun i e=>by cases e; omega)
      refine ⟨_,_,p5,rfl,G2.setW W1,?_,?_⟩
      · exact ⟨fun b j v hv=>g1.ro b j v (yP.ro b j v hv),fun o b hb=>g1.obj o b (yP.obj o b hb),fun t e r ht=>g1.tok t e r (yP.tok t e r ht),g1.B.trans yP.B,HE.symm,g1.df.trans yP.df⟩
      · refine L9.sub (G:=G2.setW G.w0) (G':=G2.setW W1) ⟨rfl,rfl,rfl,rfl⟩ rfl rfl ?_ ?_
        · show Below G2.B W1 _;rw [TD];refine (Z4.trans TC).trans (Below.trans ?_ (TE.trans (TF _ _ yQ)));rw [← Jm];exact TF _ _ Jl
        · intro k o Jn uu;replace Jn : W1.heap[k]? = some o:=Jn;by_cases e : k = w.heap.size + 1
          · subst e;rw [QO] at Jn;cases Jn;exact World.putObj_heap_same yQ
          · rw [World.putObj_heap_other e];refine Mt k o ?_ uu;rw [← Jm,World.putObj_heap_other e];exact QQ k o (HF k o Jn uu) uu
    · rintro e W2 ⟨⟨v,rfl⟩,G2,h1,h2⟩;have HE : G2.w0 = W1:=h1.w0;have HF : cX W1 W2:=(by have:=h2.others; rwa [HE] at this);have hl:=HF _ _ QO (by intros; simp);have hk:=HF _ _ kf (by intros; simp);obtain ⟨q1,q2⟩:=ik.rz h1 h2;refine ⟨none,_,by have:=run_endLoop (P:=P) hl (by rw [oH]; simp); rw [oH] at this; exact this,rfl,w.heap.size,G2.setW G.w0,q2,Nat.le_refl _,(World.putObj_heap_other (by omega)).trans hk,rfl,?_⟩;rw [oH] at hl;exact q1.putObj hl (by intros; simp) (by intros; simp) (by show G.w0.heap.size≤_; omega) (by rw [show (G2.setW G.w0).B = G2.B from rfl,h1.B]; show G.B≤_; omega)
theorem nE {f : FuncId} {fn : Func} {c : Code} {args : List AV} {bS : AV→AS→Prop} {s : AS} (hf : P.funcs[f]? = some fn) (hb : fn.body = some c) (hn : args.length≤fn.ntmps)
    (h : ∀ G a w,G.df = []→Rel Γ fn.ntmps G (bz args) s a w→c.wpIn Fence.wide 0 P (fun e a' w'=>(e = .normal∨e = .ret)∧∃ D G' E' s',G.le G'∧(G.w0.heap.size≤D∧G.B≤D)∧w'.heap[D]? = some (.deferred (some [])) ∧
      a'.defers = [{ target:=.collected D,args:=#[] }]∧Rel Γ fn.ntmps (G'.cA a'.defers) E' s' a' w'∧bt P fn.results.toList bS E' s') a w) : ai P Γ f args s bS:=by
  intro G w vs hs hv;have OW:=hv.length;refine (callsIn_wide (n:=0)).1 (callsIn_of_wp_marks hf hb trivial ?_);have wF : Rel Γ fn.ntmps (G.cA []) (bz args) s { tmps:=vs.toArray ++ Array.replicate (fn.ntmps - vs.toArray.size) undef,defers:=[] } w:=by
    refine ⟨hs.cA,by simp; omega,fun i=>?_,rfl⟩;simp only [bz];by_cases hi : i < args.length
    · obtain ⟨u,h1,h2⟩:=hv.getD i hi;have aX : i < vs.length:=(by omega);rw [Array.getD_eq_getD_getElem?,Array.getElem?_append_left (by simpa using aX)];simp only [List.getElem?_toArray,h1,Option.getD_some];exact au.cA _ _ h2
    · have e1 : args.getD i (.v undef) = .v undef:=(by simp [List.getD,List.getElem?_eq_none (Nat.le_of_not_lt hi)]);rw [e1,Array.getD_eq_getD_getElem?,Array.getElem?_append_right (by simp; omega)];simp only [au];cases hh : (Array.replicate (fn.ntmps - vs.toArray.size) undef)[i - vs.toArray.size]? with
      | none=>rfl
      | some u =>
        rw [Array.getElem?_replicate] at hh;split at hh
        · cases hh; rfl
        · cases hh
  refine wpIn_mono (h _ _ w rfl wF) ?_;rintro e a' w' ⟨he,D,G',E',s',h1,hD,hk,tn,h2,h3⟩;have Mx : G'.w0.heap.size≤D:=by
    rw [h1.w0];exact hD.1
  have hB : G'.B≤D:=by
    rw [h1.B];exact hD.2
  have fin : LeavesInM Fence.wide 0 P fn a'.tmps (fun e w'=>∃ G' r v s',e = .returned v∧G.le G'∧aN Γ G' s' w'∧au G' r v∧bS r s') a'.defers .returning w':=by
    rw [tn];refine ⟨by simp,.inl ⟨D,_,rfl,run_takeDeferred hk,?_⟩⟩;have h4 : Rel Γ fn.ntmps (G'.cA a'.defers) E' s' a' (w'.putObj D (.deferred none)):=⟨h2.st.putObj hk (by intros; simp) (by intros; simp) Mx hB,h2.size,h2.tmps,h2.defers⟩;unfold bt at h3;split at h3
    · rename_i L0 Er;obtain ⟨r,s2,q1,q2,q3⟩:=h3;obtain ⟨zs,r1,r2⟩:=pq h4 Er;refine ⟨if h : zs.toArray.size = 1 then zs.toArray[0] else .tuple zs.toArray,?_,G'.cA G.df,r,_,s2,rfl,Gh.wj h1,(h4.st.mono q2).cA (d:=G.df),au.cA (G:=G'.cA a'.defers) (d:=G.df) _ _ (q1 _ _ (qC r2)),q3⟩;rw [kJ,Array.mapM_eq_mapM_toList];simp only [Sem.run_bind,Sem.run_map,r1,Result.andThen_ok,Sem.run_pure]
    · exact h3.elim
  rcases he with rfl | rfl
  · exact fin
  · exact fin
theorem ch.wide {c : Code} {Q : Exit→Env→AS→Prop} {a : Act} (h : ch P Γ N c Q E s) (hr : Rel Γ N G E s a w) {R : Exit→Act→World→Prop}
    (hq : ∀ e G' E' s' a' w',G.le G'→Rel Γ N G' E' s' a' w'→Q e E' s'→R e a' w') : c.wpIn Fence.wide 0 P R a w :=
  wpIn_mono (F:=te none) (n:=0) (h G a w hr) fun e a' w' ⟨G',E',s',h1,h2,h3,_⟩=>hq e G' E' s' a' w' h1 h2 h3
theorem ch.behind {c : Code} {Q : Exit→Env→AS→Prop} {a : Act} {G' : Gh} {D : Nat} {s' : AS} {w' : World} (hr : Rel Γ N G E s a w) (hle : G.le G') (hk : w'.heap[D]? = some (.deferred (some []))) (hs : aN Γ G' s' w') (tn : G.df = [])
    (h : ch P Γ N c Q E s') {R : Exit→Act→World→Prop}
    (hq : ∀ e uB jq iq yH vn,G.le uB→vn.heap[D]? = some (.deferred (some []))→yH.defers = [{ target:=.collected D,args:=#[] }]→Rel Γ N (uB.cA yH.defers) jq iq yH vn→Q e jq iq→R e yH vn) :
    c.wpIn Fence.wide 0 P R { a with defers:={ target:=.collected D,args:=#[] } :: a.defers } w':=by
  have ha : a.defers = []:=hr.defers.trans tn;have wF : Rel Γ N ((G'.cA [{ target:=.collected D,args:=#[] }]).setW w') E s' { a with defers:={ target:=.collected D,args:=#[] } :: a.defers } w' :=
    ⟨(hs.cA).setW,hr.size,fun i=>au.sub (Gh.fS _ _) _ _ (au.cA _ _ (au.mono hle _ _ (hr.tmps i))),by rw [ha]; rfl⟩
  refine h.wide wF ?_;intro e G2 E2 s2 a2 w2 g1 g2 g3;have Mt : cX w' w2:=by
    have:=g2.st.others;rwa [show G2.w0 = w' from g1.w0] at this
  have MM : a2.defers = [{ target:=.collected D,args:=#[] }]:=g2.defers.trans g1.df;have hb:=aN.rz (G:=G'.cA [{ target:=.collected D,args:=#[] }]) hs.cA g1 g2.st;refine hq e (((G2.setW G'.w0)).cA G'.df) E2 s2 a2 w2 ?_ (Mt _ _ hk (by intros; simp)) MM ?_ g3
  · refine hle.trans ?_;exact ⟨hb.2.ro,hb.2.obj,hb.2.tok,hb.2.B,hb.2.w0,rfl⟩
  · refine ⟨?_,g2.size,fun i=>?_,rfl⟩
    · exact hb.1.cA (d:=a2.defers)
    · exact au.sub (G:=G2) (G':=((G2.setW G'.w0).cA G'.df).cA a2.defers) ⟨rfl,rfl,rfl,rfl⟩ _ _ (g2.tmps i)
end Go.AM
namespace Go.AM
open Go Go.RowKit
variable {rd : Option Nat} {P : Program} {Γ : Nat→List AV} {G : Gh} {s : AS} {w : World}
theorem vq {n : Nat} {T xT e : TypeId} (hT : P.underlying T = some (.slice e)) {k : IntKind} (hx : P.underlying xT = some (.int k)) {z : List AV} (he : ou P e z)
    (h0 : n≠0) (cL : n * P.bytesOf e≤2 ^ 46) (CJ : n≤2 ^ 46) (ty : TypeId) :
    ∃ (cap : Nat) (us : List Value),n≤cap∧us.length = cap * P.cellsOf e ∧
      (Builtin.append_ #[T,xT] ty #[.slice none 0 0,.int .i64 n]).run P w = .ok (.slice (some ⟨w.heap.size,0,none⟩) n cap) (w.drew.alloc (.cells us.toArray e)):=by
  obtain ⟨hz,eL,rD⟩:=he;obtain ⟨zv,IE,uA⟩:=dr hz;obtain ⟨i,hi⟩:=eK eL;have hb : P.bytesOf e = i.bytes:=(by simp [Program.bytesOf,hi]);have Gd : ∀ w',(typeInfo e).run P w' = .ok i w':=(fun w'=>by simp [typeInfo,hi]);have td:=nextslicecap_le (need:=n) (old:=0) (by omega);have mP : ¬ (2 ^ 48 < Builtin.nextslicecap n 0 * i.bytes):=by
    rw [hb] at cL;have h2 : Builtin.nextslicecap n 0 * i.bytes≤2 * n * i.bytes:=Nat.mul_le_mul_right _ td;rw [Nat.mul_assoc] at h2;omega
  have TG : zv.cells.size = P.cellsOf e:=by
    rw [uA] at rD;simpa using rD
  have hw : IntKind.i64.wrap (n : Int) = n:=IntWalk.i64_in _ (by omega);have yF : ¬ ((n : Int) < 0):=(by omega);have cW : ¬ (n * P.cellsOf e = 0):=by
    intro h;rcases Nat.mul_eq_zero.1 h with h | h
    · exact h0 h
    · exact eL h
  have Ht : ¬ ((281474976710656 : Int) < (n : Int) * (i.bytes : Int)):=by
    rw [hb] at cL;have : ((n * i.bytes : Nat) : Int)≤((2 ^ 46 : Nat) : Int):=Int.ofNat_le.2 cL;rw [Int.natCast_mul] at this;omega
  have mO : ¬ (9223372036854775807 < (n : Int)):=(by omega);refine ⟨_,(Builtin.zeroCells zv.cells n ++ Builtin.zeroCells zv.cells ((Question.appendCap n 0 e).cut (w.tape w.drawn (.appendCap n 0 e)) - n)).toList,eM n 0 e (w.tape w.drawn (.appendCap n 0 e)),?_,?_⟩
  · have:=eM n 0 e (w.tape w.drawn (.appendCap n 0 e));simp only [Builtin.zeroCells,Array.toList_append,List.length_append,Array.length_toList,TG];simp [TG];rw [← Nat.add_mul];congr 1;omega
  · have hf : (Question.appendCap n 0 e).forced = false:=rfl;have hgt : ¬ (n≤0):=(by omega);simp [Builtin.append_,run_underlying hT,aR eL,run_underlying hx,asInt,asIntOf,hw,yF,Gd,Ht,mO,mP,hf,IE,newRow,cW,h0,Builtin.firstCells];congr 2;apply Array.ext';simp
theorem Bo {N : Nat} {E : Env} {Q : Exit→Env→AS→Prop} {id : Nat} (L1 L2 L3 : List Oper) {oa os : Oper} {T xT e ty : TypeId} {k : IntKind} {x y h : Operand} {d1 d2 : Tmp} {z : List AV}
    (Z7 : oa.op = .call { callee:=.builtin .append,args:=#[x,y],argTypes:=#[T,xT] }) (TH : oa.guard = none) (TI : oa.dst = some d1) (QT : d1 < N)
    (YR : os.op = .slice ty (.tmp d1) none (some h) none) (Z8 : os.guard = none) (OX : os.dst = some d2) (MM : d2 < N)
    (hT : P.underlying T = some (.slice e)) (YS : P.underlying ty = some (.slice e)) (hx : P.underlying xT = some (.int k)) (he : ou P e z) (vP : P.cellsOf e = 1)
    (hh : AY P Γ N (L1 ++ oa :: (L2 ++ os :: L3)).toArray L1 (fun E1 s1=>aL Γ E1 x = .v (.slice none 0 0)∧∃ n : Nat,aL Γ E1 y = .v (.int .i64 n)∧n≠0∧n * P.bytesOf e≤2 ^ 46∧n≤2 ^ 46 ∧
      ∀ t v,s1.own t = none→AY P Γ N (L1 ++ oa :: (L2 ++ os :: L3)).toArray L2 (fun E2 s2=>E2 d1 = .v v∧aL Γ E2 h = .v (.int .i64 0) ∧
        AY P Γ N (L1 ++ oa :: (L2 ++ os :: L3)).toArray L3 (fun E' s'=>Q .normal E' s') (aF E2 d2 (.sl 1 0 [] (.own t 0))) s2) (aF E1 d1 (.v v)) (s1.bC t 0)) E s) :
    ch P Γ N (.region id (L1 ++ oa :: (L2 ++ os :: L3)).toArray false) Q E s:=by
  generalize Z9 : (L1 ++ oa :: (L2 ++ os :: L3)).toArray = ops at hh ⊢;rw [ay] at hh;intro G a w hr;refine wpIn_region ?_;have bR : ∀ ops : Array Oper,(List.range ops.size).map (ops[·]?) = ops.toList.map some:=by
    intro ops;apply List.ext_getElem?;intro i;simp only [List.getElem?_map];by_cases hi : i < ops.size
    · simp [hi]
    · simp [hi]
  have oG:=bR ops;generalize hI : List.range ops.size = I at oG;have gC : ops.toList = L1 ++ oa :: (L2 ++ os :: L3):=(by rw [← Z9]);rw [gC] at oG;have Jo : ∀ (I : List Nat) (A : List Oper) (o : Oper) (B : List Oper),I.map (ops[·]?) = (A ++ o :: B).map some→∃ I1 i I2,I = I1 ++ i :: I2∧I1.map (ops[·]?) = A.map some∧ops[i]? = some o∧I2.map (ops[·]?) = B.map some:=by
    intro I A o B hm;have h1 : (I.take A.length).map (ops[·]?) = A.map some:=(by rw [List.map_take,hm]; simp);have h2 : (I.drop A.length).map (ops[·]?) = (o :: B).map some:=(by rw [List.map_drop,hm]; simp);generalize TJ : I.drop A.length = J at h2;cases J with
    | nil=>simp at h2
    | cons i I2 =>
      simp only [List.map_cons,List.cons.injEq] at h2;exact ⟨I.take A.length,i,I2,by rw [← TJ,List.take_append_drop],h1,h2.1,h2.2⟩
  obtain ⟨I1,i1,J,rfl,m1,mo1,mJ⟩:=Jo I L1 oa (L2 ++ os :: L3) oG;obtain ⟨I2,i2,I3,rfl,m2,mo2,m3⟩:=Jo J L2 os L3 mJ;refine dG L1 I1 (i1 :: (I2 ++ i2 :: I3)) m1 (dy _ hh) hr ?_;rintro G1 E1 s1 a1 w1 gl pZ ⟨⟨Z1,n,hye,YT,YU,xaa,hk⟩,Bm⟩;rw [wpOpsIn_cons];simp only [wpOpIn,mo1];rw [if_pos (dI TH)];have og:=pZ.eval x;rw [Z1] at og;have vm:=pZ.eval y;rw [hye] at vm;simp only [au] at og vm;obtain ⟨cap,us,gB,ka,kD⟩:=vq (P:=P) (w:=w1) hT hx he YT YU xaa oa.type;have YV : s1.own G1.nt = none:=pZ.st.gj (Nat.le_refl _);obtain ⟨G2,g1,g2,g3,g4,g5,g6⟩:=pZ.st.drew.oq [] us e G1.nt 0 (fun e' _=>pZ.st.bU _ (Nat.le_refl _) e');simp only [List.nil_append,List.length_nil] at g2 g4;rw [ka,vP,Nat.mul_one] at g4;have hk:=hk G1.nt (.slice (some ⟨w1.heap.size,0,none⟩) n cap) YV;have TK : (execOp a1.eval oa).run P w1 = .ok (.value (.slice (some ⟨w1.heap.size,0,none⟩) n cap)) (w1.drew.alloc (.cells us.toArray e)):=by
    rw [cN Z7];simp [builtin,og,vm,kD]
  refine ⟨fun _ _=>trivial,?_⟩;rw [Oper.semAt_eq _ _ _ (Ts TK)];rw [TK];simp only [Oper.uponIn];have p6:=pZ.put (dst:=oa.dst) g1 g2 (r:=.v (.slice (some ⟨w1.heap.size,0,none⟩) n cap)) (v:=.slice (some ⟨w1.heap.size,0,none⟩) n cap) (by simp [au]) (by intro d hd; rw [TI] at hd; cases hd; exact QT);rw [TI] at p6 ⊢;simp only [bu] at p6;refine dG L2 I2 (i2 :: I3) m2 (dy _ hk) p6 ?_;rintro G3 E3 s3 a3 w3 O5 p5 ⟨⟨hd,hhe,TL⟩,QU⟩;rw [wpOpsIn_cons];simp only [wpOpIn,mo2];rw [if_pos (dI Z8)];have II:=p5.tmps d1;rw [hd] at II;have hhr:=p5.eval h;rw [hhe] at hhr;simp only [au] at II hhr;have hb:=cG (P:=P) (isSlice:=true) (len:=n) (cap:=cap) (l:=0) (h:=0) (lo:=none) (hi:=some (.int .i64 0)) (.inl ⟨rfl,rfl⟩) (.inr ⟨_,rfl⟩) (Int.le_refl 0) (Int.le_refl 0) (by omega) w3;have Es : P.cellsOf e≠0:=he.2.1;have TM : (Instr.sliceAt ty (.slice (some ⟨w1.heap.size,0,none⟩) n cap) none (some (.int .i64 0)) none).run P w3 = .ok (.slice (some ⟨w1.heap.size,0,none⟩) 0 cap) w3:=by
    rw [eN YS];simp [Instr.slice,run_underlying YS,hb,aR Es,Addr.add]
  have hex : (execOp a3.eval os).run P w3 = .ok (.value (.slice (some ⟨w1.heap.size,0,none⟩) 0 cap)) w3:=by
    obtain ⟨dst,op,type,pos,after,guard⟩:=os;simp only at YR;subst YR;have e1 : a3.eval (.tmp d1) = .slice (some ⟨w1.heap.size,0,none⟩) n cap:=II;simp [execOp,e1,hhr,TM]
  refine ⟨fun _ _=>trivial,?_⟩;rw [Oper.semAt_eq _ _ _ (Ts hex)];rw [hex];simp only [Oper.uponIn];have Cs:=p5.put (dst:=os.dst) (Gh.le.refl G3) p5.st (r:=.sl 1 0 [] (.own G1.nt 0)) (v:=.slice (some ⟨w1.heap.size,0,none⟩) 0 cap) (by
    simp only [au];refine .inl ⟨w1.heap.size,0,cap,[],rfl,by simp,by omega,by simp [aq],fun j u hj=>by simp at hj,?_⟩;simp only [dY,Nat.zero_mul,Nat.add_zero,Nat.zero_add,Nat.mul_one];have:=O5.tok _ _ _ g4;simpa using this) (by intro d Tx; rw [OX] at Tx; cases Tx; exact MM)
  rw [OX] at Cs ⊢;simp only [bu] at Cs;refine kG L3 I3 m3 (dy _ TL) Cs ?_;rintro G5 E5 s5 a5 w5 hG5 MN ⟨hk5,xac⟩;refine ⟨G5,E5,s5,gl.trans (g1.trans (O5.trans hG5)),MN,hk5,?_⟩;intro i hi;have mem : ∀ L : List Oper,i ∈ ct L↔∃ o ∈ L,o.dst = some i:=(fun L=>by simp [ct,List.mem_filterMap]);simp only [writes] at hi;rw [gC] at hi;have aX : ¬ ∃ o' ∈ L1 ++ oa :: (L2 ++ os :: L3),o'.dst = some i:=fun hm=>hi ((mem _).2 hm);have q1 : i ∉ ct L1:=fun hm=>aX (by obtain ⟨o,k1,k2⟩:=(mem _).1 hm; exact ⟨o,by simp [k1],k2⟩);have q2 : i ∉ ct L2:=fun hm=>aX (by obtain ⟨o,k1,k2⟩:=(mem _).1 hm; exact ⟨o,by simp [k1],k2⟩);have q3 : i ∉ ct L3:=fun hm=>aX (by obtain ⟨o,k1,k2⟩:=(mem _).1 hm; exact ⟨o,by simp [k1],k2⟩);have q4 : i≠d1:=fun e=>aX ⟨oa,by simp,by rw [e]; exact TI⟩;have q5 : i≠d2:=fun e=>aX ⟨os,by simp,by rw [e]; exact OX⟩;rw [xac i q3,gF _ _ q5,QU i q2,gF _ _ q4,Bm i q1]
theorem xf {N : Nat} {E : Env} {Q : Exit→Env→AS→Prop} {id : Nat} {o1 o2 o3 o4 o5 oa o7 o8 os rm : Oper} {T xT e ty : TypeId} {k : IntKind} {x y h : Operand} {d1 d2 : Tmp} {z : List AV}
    (Z7 : oa.op = .call { callee:=.builtin .append,args:=#[x,y],argTypes:=#[T,xT] }) (TH : oa.guard = none) (TI : oa.dst = some d1) (QT : d1 < N)
    (YR : os.op = .slice ty (.tmp d1) none (some h) none) (Z8 : os.guard = none) (OX : os.dst = some d2) (MM : d2 < N)
    (hT : P.underlying T = some (.slice e)) (YS : P.underlying ty = some (.slice e)) (hx : P.underlying xT = some (.int k)) (he : ou P e z) (vP : P.cellsOf e = 1)
    (hh : ∀ ops : Array Oper,AY P Γ N ops [o1,o2,o3,o4,o5] (fun E1 s1=>aL Γ E1 x = .v (.slice none 0 0)∧∃ n : Nat,aL Γ E1 y = .v (.int .i64 n)∧n≠0∧n * P.bytesOf e≤2 ^ 46∧n≤2 ^ 46 ∧
      ∀ t v,s1.own t = none→AY P Γ N ops [o7,o8] (fun E2 s2=>E2 d1 = .v v∧aL Γ E2 h = .v (.int .i64 0) ∧
        AY P Γ N ops [rm] (fun E' s'=>Q .normal E' s') (aF E2 d2 (.sl 1 0 [] (.own t 0))) s2) (aF E1 d1 (.v v)) (s1.bC t 0)) E s) :
    ch P Γ N (.region id #[o1,o2,o3,o4,o5,oa,o7,o8,os,rm] false) Q E s :=
  Bo [o1,o2,o3,o4,o5] [o7,o8] [rm] Z7 TH TI QT YR Z8 OX MM hT YS hx he vP (hh _)
def dE (s : AS) (l : List UInt8) (r : AV) (s' : AS) : Prop :=
  s.le s'∧((l = []∧r = .v (.slice none 0 0))∨∃ t e,s.own t = none∧s'.own t = some e∧r = .sl 1 l.length (l.map ah) (.own t e))
theorem dE.nil (s : AS) : dE s [] (.v (.slice none 0 0)) s:=⟨AS.le.refl s,.inl ⟨rfl,rfl⟩⟩
theorem dE.aB {s s' : AS} {l : List UInt8} {r : AV} (h : dE s l r s') : r.aB (aj l .any):=by
  rcases h.2 with ⟨rfl,rfl⟩ | ⟨t,e,_,_,rfl⟩
  · exact AV.aI
  · exact AV.bQ
theorem yR (l : List UInt8) : (l.map ah).all AV.one = true:=by
  rw [List.all_eq_true];intro x hx;obtain ⟨n,_,rfl⟩:=List.mem_map.1 hx;rfl
theorem cV {e : TypeId} {K : AV→AS→Prop} {s s1 : AS} {l ds : List UInt8} {r : AV} {m : Nat} {cs : List AV} (h : dE s l r s1) (hm : m = ds.length) (Es : cs = ds.map ah) (he : P.cellsOf e = 1) (hb : P.bytesOf e = 1) (hlen : l.length + ds.length≤2 ^ 45)
    (hk : ∀ r2 s2,dE s (l ++ ds) r2 s2→K r2 s2) : fw P e r m cs s1 K:=by
  subst hm Es;rcases h.2 with ⟨rfl,rfl⟩ | ⟨t,g,h1,h2,rfl⟩
  · rw [oB];split
    · rename_i h0;have : ds = []:=List.eq_nil_of_length_eq_zero h0;subst this;exact hk _ _ h
    · rename_i h0;rw [he,hb];simp only [List.length_nil,Nat.zero_add] at hlen;refine ⟨by omega,by omega,fun t ht=>hk _ _ ?_⟩;refine ⟨AS.bq h.1 ?_ 0,.inr ⟨t,0,?_,AS.iT _ _ _,by simp⟩⟩;all_goals
        cases hs : s.own t with
        | none=>rfl
        | some g=>rw [h.1.own t g hs] at ht; cases ht
  · rw [oC];split
    · rename_i h0;have : ds = []:=List.eq_nil_of_length_eq_zero h0;subst this;exact hk _ _ (by simpa using h)
    · rename_i h0;rw [he,hb];refine ⟨rfl,by omega,by omega,yR ds,h2,hk _ _ ?_⟩;exact ⟨AS.bq h.1 h1 _,.inr ⟨t,g + 1,h1,AS.iT _ _ _,by simp⟩⟩
end Go.AM
namespace Go.AM
open Go Go.RowKit
variable {P : Program} {Γ : Nat→List AV} {G : Gh} {s : AS} {w : World} {N : Nat} {E : Env}
theorem Bp {ρ : Operand→Value} {o : Oper} {f x : Operand} {ts : Array TypeId} {l : Nat} (ho : o.op = .call { callee:=.value f,args:=#[x],argTypes:=ts }) (hf : ρ f = .func (.yield l) #[] #[]) :
    (execOp ρ o).run P w = (Instr.yield l #[ρ x]).run P w:=by
  obtain ⟨dst,op,type,pos,after,guard⟩:=o;simp only at ho;subst ho;simp [execOp,resolve,hf,Deferred.ofValue,invoke]
theorem Ae (ops : Array Oper) : (List.range ops.size).map (ops[·]?) = ops.toList.map some:=by
  apply List.ext_getElem?;intro i;simp only [List.getElem?_map];by_cases hi : i < ops.size
  · simp [hi]
  · simp [hi]
theorem Af {ops : Array Oper} {I : List Nat} {A B : List Oper} {o : Oper} (hm : I.map (ops[·]?) = (A ++ o :: B).map some) : ∃ I1 i I2,I = I1 ++ i :: I2∧I1.map (ops[·]?) = A.map some∧ops[i]? = some o∧I2.map (ops[·]?) = B.map some:=by
  have h1 : (I.take A.length).map (ops[·]?) = A.map some:=(by rw [List.map_take,hm]; simp);have h2 : (I.drop A.length).map (ops[·]?) = (o :: B).map some:=(by rw [List.map_drop,hm]; simp);generalize TJ : I.drop A.length = J at h2;cases J with
  | nil=>simp at h2
  | cons i I2 =>
    simp only [List.map_cons,List.cons.injEq] at h2;exact ⟨I.take A.length,i,I2,by rw [← TJ,List.take_append_drop],h1,h2.1,h2.2⟩
theorem xg {l id : Nat} (L1 L2 : List Oper) {o : Oper} {f x : Operand} {ts : Array TypeId} {a : Act} {Q : Exit→Act→World→Prop} {K1 : Env→AS→Prop} {K2 : Env→AS→Prop}
    (ho : o.op = .call { callee:=.value f,args:=#[x],argTypes:=ts }) (hg : o.guard = none) (hd : ∀ d,o.dst = some d→d < N)
    (h1 : AY P Γ N (L1 ++ o :: L2).toArray L1 (fun E1 s1=>aL Γ E1 f = .v (.func (.yield l) #[] #[])∧K1 E1 s1) E s) (hr : Rel Γ N G E s a w)
    (hy : ∀ G1 E1 s1 a1 w1,G.le G1→Rel Γ N G1 E1 s1 a1 w1→K1 E1 s1→YieldAt Fence.wide 0 P l #[a1.eval x] w1 fun e W'=>e = .returned (.bool true)∧∃ G2 s2,G1.le G2∧aN Γ G2 s2 W' ∧
      AY P Γ N (L1 ++ o :: L2).toArray L2 K2 (bu E1 o.dst (.v (.bool true))) s2)
    (hq : ∀ G' E' s' a' w',G.le G'→Rel Γ N G' E' s' a' w'→K2 E' s'→Q .normal a' w') : (Code.region id (L1 ++ o :: L2).toArray false).wpIn Fence.wide 0 P Q a w:=by
  rw [ay] at h1;refine wpIn_region ?_;have oG:=Ae (L1 ++ o :: L2).toArray;generalize List.range (L1 ++ o :: L2).toArray.size = I at oG ⊢;obtain ⟨I1,i,I2,rfl,m1,mo,m2⟩:=Af (A:=L1) (B:=L2) (o:=o) oG;refine gO (l:=none) L1 I1 (i :: I2) m1 h1 hr ?_;rintro G1 E1 s1 a1 w1 gl pZ ⟨hf,IJ⟩;have HI:=pZ.eval f;rw [hf] at HI;simp only [au] at HI;obtain ⟨fn,tmps,assign,body,q1,q2⟩:=hy G1 E1 s1 a1 w1 gl pZ IJ;simp only [wpOpsIn,mo];rw [if_pos (dI hg)];refine ⟨fun _ _=>trivial,?_⟩;rw [Oper.semAt_eq _ _ _ (by intro c; rw [ho]; simp),Bp ho HI,q1];rw [Oper.uponIn_round];refine ⟨fun e=>(by cases e),RoundIn.mono (F:=Fence.wide) q2 ?_⟩;rintro e W' ⟨rfl,G2,s2,g1,g2,g3⟩;rw [ay] at g3;have p6 : Rel Γ N G2 E1 s2 a1 W':=⟨g2,pZ.size,fun i=>au.mono g1 _ _ (pZ.tmps i),pZ.defers.trans g1.df.symm⟩;have p5:=p6.put (dst:=o.dst) (Gh.le.refl G2) g2 (r:=.v (.bool true)) (v:=.bool true) (by simp [au]) hd;exact mW (l:=none) L2 I2 m2 g3 p5 fun G3 E3 s3 a3 w3 h3 p5 hk=>hq G3 E3 s3 a3 w3 (gl.trans (g1.trans h3)) p5 hk
theorem tp {l id : Nat} {o1 o2 o3 o4 o5 o6 o7 o8 o9 rm o xh : Oper} {f x : Operand} {ts : Array TypeId} {a : Act} {Q : Exit→Act→World→Prop} (K1 K2 : Env→AS→Prop)
    (ho : o.op = .call { callee:=.value f,args:=#[x],argTypes:=ts }) (hg : o.guard = none) (hd : ∀ d,o.dst = some d→d < N)
    (h1 : ∀ ops,AY P Γ N ops [o1,o2,o3,o4,o5,o6,o7,o8,o9,rm] (fun E1 s1=>aL Γ E1 f = .v (.func (.yield l) #[] #[])∧K1 E1 s1) E s) (hr : Rel Γ N G E s a w)
    (hy : ∀ ops G1 E1 s1 a1 w1,G.le G1→Rel Γ N G1 E1 s1 a1 w1→K1 E1 s1→YieldAt Fence.wide 0 P l #[a1.eval x] w1 fun e W'=>e = .returned (.bool true)∧∃ G2 s2,G1.le G2∧aN Γ G2 s2 W' ∧
      AY P Γ N ops [xh] K2 (bu E1 o.dst (.v (.bool true))) s2)
    (hq : ∀ G' E' s' a' w',G.le G'→Rel Γ N G' E' s' a' w'→K2 E' s'→Q .normal a' w') : (Code.region id #[o1,o2,o3,o4,o5,o6,o7,o8,o9,rm,o,xh] false).wpIn Fence.wide 0 P Q a w :=
  xg (K1:=K1) (K2:=K2) [o1,o2,o3,o4,o5,o6,o7,o8,o9,rm] [xh] ho hg hd (h1 _) hr (hy _) hq
theorem Rel.entry {args : List AV} {vs : List Value} (hs : aN Γ G s w) (hv : aq G args vs) (hn : args.length≤N) (tn : G.df = []) :
    Rel Γ N G (bz args) s { tmps:=vs.toArray ++ Array.replicate (N - vs.toArray.size) undef,defers:=[] } w:=by
  have OW:=hv.length;refine ⟨hs,by simp; omega,fun i=>?_,tn.symm⟩;simp only [bz];by_cases hi : i < args.length
  · obtain ⟨u,h1,h2⟩:=hv.getD i hi;have aX : i < vs.length:=(by omega);rw [Array.getD_eq_getD_getElem?,Array.getElem?_append_left (by simpa using aX)];simp only [List.getElem?_toArray,h1,Option.getD_some];exact h2
  · have e1 : args.getD i (.v undef) = .v undef:=(by simp [List.getD,List.getElem?_eq_none (Nat.le_of_not_lt hi)]);rw [e1,Array.getD_eq_getD_getElem?,Array.getElem?_append_right (by simp; omega)];simp only [au];cases hh : (Array.replicate (N - vs.toArray.size) undef)[i - vs.toArray.size]? with
    | none=>rfl
    | some u =>
      rw [Array.getElem?_replicate] at hh;split at hh
      · cases hh; rfl
      · cases hh
end Go.AM
namespace Go.AM
open Go Go.RowKit
variable {P : Program} {Γ : Nat→List AV} {N : Nat}
theorem gK.trans {E E' jq : Env} {s s' iq : AS} (h : gK Γ N E s E' s') (k : gK Γ N E' s' jq iq) : gK Γ N E s jq iq:=by
  intro G a w hr;obtain ⟨G1,h1,h2⟩:=h G a w hr;obtain ⟨G2,k1,k2⟩:=k G1 a w h2;exact ⟨G2,h1.trans k1,k2⟩
theorem gP {E : Env} {s : AS} {Q : Exit→Env→AS→Prop} (d1 d2 : Nat) {id : Nat} {L : List Oper} {y : Code} (QT : d1 ∈ ct L) (MM : d2 ∈ ct L) (cW : d1≠d2)
    (h : ∀ K : Env→AS→Prop,(∀ E s o1 o2 O7 Mz,E d1 = .ptr o1 0→E d2 = .ptr o2 0→s.av o1 = none→(s.set o1 O7).av o2 = none→ch P Γ N y Q (aF (aF E d2 (.dc Mz)) d1 (.dc O7)) s→K E ((s.set o1 O7).set o2 Mz))→AY P Γ N L.toArray L K E s) :
    ch P Γ N (.seq (.region id L.toArray false) y) Q E s:=by
  refine ke (mi ?_);have:=h (fun E' s'=>∃ jq iq,gK Γ N E' s' jq iq∧(∀ i,i ∉ ct L→jq i = E' i)∧az (ch P Γ N y Q) Q .normal jq iq) ?_
  · rw [ay] at this;simpa using this
  · intro E' s' o1 o2 O7 Mz h1 h2 h3 h4 h5;refine ⟨aF (aF E' d2 (.dc Mz)) d1 (.dc O7),s',?_,?_,h5⟩
    · have g1:=gK.ml (Γ:=Γ) (N:=N) (E:=E') (s:=(s'.set o1 O7).set o2 Mz) (d:=d2) h2 (AS.ae _ _ _);rw [AS.drop_set h4] at g1;have g2:=gK.ml (Γ:=Γ) (N:=N) (E:=aF E' d2 (.dc Mz)) (s:=s'.set o1 O7) (d:=d1) (by rw [gF _ _ cW]; exact h1) (AS.ae _ _ _);rw [AS.drop_set h3] at g2;exact g1.trans g2
    · intro i hi;rw [gF _ _ (fun e=>hi (by rw [e]; exact QT)),gF _ _ (fun e=>hi (by rw [e]; exact MM))]
theorem AS.Jp {s : AS} {o : Nat} {cs : List AV} (h : s.av o = some cs) : s.set o cs = s:=by
  cases s with
  | mk av own =>
    simp only [AS.set,AS.mk.injEq,and_true];funext i;simp only [aF];split
    · rename_i e; subst e; exact h.symm
    · rfl
end Go.AM
namespace Go.AM
open Go Go.RowKit
variable {P : Program} {Γ : Nat→List AV} {G : Gh} {s : AS} {w : World}
theorem Bq {ρ : Operand→AV} {ρ' : Operand→Value} {o : Oper} {src dst e : TypeId} {x : Operand} {l : List UInt8} (ho : o.op = .convert src dst x) (Eo : P.underlying src = some .string) (Ep : P.underlying dst = some (.slice e)) (he : P.underlying e = some (.int .u8))
    (hx : ρ x = .v (.string ⟨l.toArray⟩)) (hρ : ∀ x,au G (ρ x) (ρ' x)) (hs : aN Γ G s w) :
    cY P Γ G (fun r s'=>dE s l r s') ((execOp ρ' o).run P w):=by
  have og:=hρ x;rw [hx] at og;simp only [au] at og;obtain ⟨cap,hle,kD⟩:=lC (P:=P) e (⟨l.toArray⟩ : ByteArray) w;have eL : (⟨l.toArray⟩ : ByteArray).size = l.length:=rfl;have zM : (⟨l.toArray⟩ : ByteArray).data.toList = l:=rfl;rw [eL] at hle kD;rw [zM] at kD;have YV : s.own G.nt = none:=hs.gj (Nat.le_refl _);obtain ⟨G',h1,h2,h3,h4⟩:=hs.stringToBytes e l (cap - l.length) cap (by omega) G.nt 0 (fun e' _=>hs.bU _ (Nat.le_refl _) e');have hr : (convert src dst (ρ' x)).run P w = .ok (.slice (some ⟨w.heap.size,0,none⟩) l.length cap) ((w.drew.alloc (.cells (dg l ++ fE (cap - l.length)).toArray e)).freeze ⟨w.heap.size,cap,none⟩ 1):=by
    rw [og,← kD];simp [convert,run_underlying Eo,run_underlying Ep,run_underlying he]
  refine (show execOp ρ' o = (do pure (.value (← convert src dst (ρ' x)))) by
    obtain ⟨d,op,type,pos,after,guard⟩:=o;simp only at ho;subst ho;rfl) ▸ dt ⟨G',_,_,.sl 1 l.length (l.map ah) (.own G.nt 0),s.bC G.nt 0,hr,h1,h2,?_,AS.bq (AS.le.refl s) YV 0,.inr ⟨G.nt,0,YV,AS.iT _ _ _,rfl⟩⟩
  simp only [au];exact .inl ⟨w.heap.size,0,cap,dg l,rfl,by simp,hle,lB _,h3,by simpa [dY] using h4⟩
theorem Br {N : Nat} {E : Env} {Q : Exit→Env→AS→Prop} {id : Nat} {L2 : List Oper} {o1 o : Oper} {code : Code} (hg : o.guard = none) (hd : ∀ d,o.dst = some d→d < N)
    (h : ∀ ops,AY P Γ N ops [o1] (fun E1 s1=>∃ K1 : AV→AS→Prop,(∀ G a w,Rel Γ N G E1 s1 a w→cY P Γ G K1 ((execOp a.eval o).run P w)) ∧
      ∀ r s2,K1 r s2→AY P Γ N ops L2 (fun E' s'=>ch P Γ N code Q E' s') (bu E1 o.dst r) s2) E s) :
    ch P Γ N (.seq (.region id (o1 :: o :: L2).toArray false) code) Q E s :=
  oF [o1] L2 hg hd (h _)
end Go.AM
namespace Go.AM
open Go Go.RowKit
theorem AV.r3 {sz n : Nat} {cs ds : List AV} {sp : Sp} (h : fU.aB cs ds) : (AV.sl sz n cs sp).aB (.sl sz n ds sp):=by
  intro G v hv;simp only [au] at hv ⊢;have rK : cs = []→ds = []:=fun e=>by
    have:=h G [] (by rw [e]; simp [aq]);cases ds with
    | nil=>rfl
    | cons d ds=>simp only [aq] at this; obtain ⟨u,us,h1,_⟩:=this; cases h1
  rcases hv with ⟨b,off,cap,vs,h1,h2,h3,h4,h5,h6⟩ | ⟨h1,h2,h3⟩ | ⟨h1,h2,h3⟩
  · refine .inl ⟨b,off,cap,vs,h1,?_,h3,h G vs h4,h5,h6⟩;have e1:=h4.length;have e2:=(h G vs h4).length;omega
  · exact .inr (.inl ⟨h1,rK h2,h3⟩)
  · exact .inr (.inr ⟨h1,rK h2,h3⟩)
end Go.AM
namespace Go.AM
open Go Go.RowKit
variable {rd : Option Nat} {P : Program} {Γ : Nat→List AV} {N : Nat}
def IK (P : Program) (Γ : Nat→List AV) (N : Nat) (c : Code) (Q : Exit→Env→AS→Prop) (E : Env) (s : AS) : Prop :=
  ∀ (G : Gh) (a : Act) (w : World),Rel Γ N G E s a w→∀ {rd : Option Nat},c.wpIn (te rd) 0 P (fun e a' w'=>∃ G' E' s',G.le G'∧Rel Γ N G' E' s' a' w'∧Q e E' s') a w
section
variable {E : Env} {s : AS} {Q : Exit→Env→AS→Prop}
theorem ch.g {c : Code} (h : ch P Γ N c Q E s) : IK P Γ N c Q E s:=fun G a w hr=>wpIn_mono (h G a w hr) fun e a' w' ⟨G',E',s',h1,h2,h3,_⟩=>⟨G',E',s',h1,h2,h3⟩
theorem MO {x y : Code} (h : IK P Γ N x (az (IK P Γ N y Q) Q) E s) : IK P Γ N (.seq x y) Q E s:=by
  intro G a w hr;refine wpIn_seq (wpIn_mono (h G a w hr) ?_);rintro e a' w' ⟨G',E',s',h1,h2,h3⟩;cases e <;> simp only [Exit.then,az] at h3 ⊢;case normal =>
    refine wpIn_mono (h3 G' a' w' h2) ?_;rintro e yH vn ⟨uB,jq,iq,k1,k2,k3⟩;exact ⟨uB,jq,iq,h1.trans k1,k2,k3⟩
  all_goals exact ⟨G',E',s',h1,h2,h3⟩
theorem cZ {x y : Code} (h : ∀ K : Env→AS→Prop,(∀ E s,IK P Γ N y Q E s→K E s)→ch P Γ N x (az K Q) E s) : IK P Γ N (.seq x y) Q E s :=
  MO (h _ fun _ _ h=>h).g
theorem Ag {c : Code} {E' : Env} {s' : AS} (g : gK Γ N E s E' s') (h : IK P Γ N c Q E' s') : IK P Γ N c Q E s:=by
  intro G a w hr;obtain ⟨G1,k1,k2⟩:=g G a w hr;exact wpIn_mono (h G1 a w k2) fun e a' w' ⟨G',E',s',h1,h2,h3⟩=>⟨G',E',s',k1.trans h1,h2,h3⟩
end
theorem HJ {f : FuncId} {fn : Func} {c : Code} {args : List AV} {bS : AV→AS→Prop} {s : AS} (hf : P.funcs[f]? = some fn) (hb : fn.body = some c) (hn : args.length≤fn.ntmps)
    (h : IK P Γ fn.ntmps c (b8 P fn.results.toList bS) (bz args) s) : ai P Γ f args s bS:=by
  intro G w vs hs hv;have OW:=hv.length;refine calls_of_wp hf hb ?_;have wF : Rel Γ fn.ntmps (G.cA []) (bz args) s { tmps:=vs.toArray ++ Array.replicate (fn.ntmps - vs.toArray.size) undef,defers:=[] } w:=by
    refine ⟨hs.cA,by simp; omega,fun i=>?_,rfl⟩;simp only [bz];by_cases hi : i < args.length
    · obtain ⟨u,h1,h2⟩:=hv.getD i hi;have aX : i < vs.length:=(by omega);rw [Array.getD_eq_getD_getElem?,Array.getElem?_append_left (by simpa using aX)];simp only [List.getElem?_toArray,h1,Option.getD_some];exact au.cA _ _ h2
    · have e1 : args.getD i (.v undef) = .v undef:=(by simp [List.getD,List.getElem?_eq_none (Nat.le_of_not_lt hi)]);rw [e1,Array.getD_eq_getD_getElem?,Array.getElem?_append_right (by simp; omega)];simp only [au];cases hh : (Array.replicate (fn.ntmps - vs.toArray.size) undef)[i - vs.toArray.size]? with
      | none=>rfl
      | some u =>
        rw [Array.getElem?_replicate] at hh;split at hh
        · cases hh; rfl
        · cases hh
  refine wpIn_wide.1 (wpIn_mono (F:=te none) (n:=0) (h _ _ w wF) ?_);rintro e a' w' ⟨G',E',s',h1,h2,h3⟩;have fin : bt P fn.results.toList bS E' s'→bodyPost P fn (fun e w'=>∃ G' r v s',e = .returned v∧G.le G'∧aN Γ G' s' w'∧au G' r v∧bS r s') .normal a' w':=by
    intro hF;unfold bt at hF;split at hF
    · rename_i L0 Er;obtain ⟨r,s2,q1,q2,q3⟩:=hF;obtain ⟨zs,r1,r2⟩:=pq h2 Er;refine ⟨h2.defers.trans h1.df,if h : zs.toArray.size = 1 then zs.toArray[0] else .tuple zs.toArray,?_,G'.cA G.df,r,_,s2,rfl,Gh.wj h1,(h2.st.mono q2).cA,au.cA _ _ (q1 _ _ (qC r2)),q3⟩;rw [kJ,Array.mapM_eq_mapM_toList];simp only [Sem.run_bind,Sem.run_map,r1,Result.andThen_ok,Sem.run_pure]
    · exact hF.elim
  cases e <;> simp only [b8] at h3;case normal=>exact fin h3
  case ret=>exact fin h3
theorem uP {f : FuncId} {fn : Func} {c : Code} {rs : Array ResultVar} {N : Nat} {args : List AV} {bS : AV→AS→Prop} {s : AS} (hf : P.funcs[f]? = some fn) (hb : fn.body = some c) (hN : fn.ntmps = N) (L6 : fn.results = rs) (hn : args.length≤N)
    (h : IK P Γ N c (b8 P rs.toList bS) (bz args) s) : ai P Γ f args s bS:=by
  subst hN L6;exact HJ hf hb hn h
end Go.AM
namespace Go.AM
open Go Go.RowKit Go.ChangeShapes
variable {H : Type} {enc : TypeId × Value→H} {P : Program}
theorem r4 {w : World} {base : Nat} {spare : Nat→Bool} {held : Bool} {fuel : Nat} {t e : TypeId} {d : DataW H} {p : List MemPlace} {v : Value} {ts : List TypeId} {ds : List (DataW H)} {j : Nat} (hu : P.underlying t = some (.slice e))
    (hz : (DataW.weightsEach P ts ds).all (·≤reachBytes) = true) (ht : ts[j]? = some t) (hd : ds[j]? = some d) (h : DataW.trod enc P w base spare held fuel t v.cells.toList = some (d,p)) (hb : 1≤P.bytesOf e) :
    ∀ a l c,v = .slice a l c→l≤reachBytes:=by
  rintro a l c rfl;simp only [Value.cells] at h;rcases DataW.trod_slice hu h with ⟨h1,_⟩ | ⟨a',len,cap,elems,rest,n,_,h1,h2,_,_,_,hlen,_⟩
  · simp only [List.cons.injEq,Value.slice.injEq,and_true] at h1;omega
  · simp only [List.cons.injEq,Value.slice.injEq,and_true] at h1;simp only [Prod.mk.injEq] at h2;obtain ⟨rfl,_⟩:=h2;have:=sized_slice hz ht hd hu;simp only [List.length_map] at this;have h3 : (elems.length + rest.length) * 1≤(elems.length + rest.length) * P.bytesOf e:=Nat.mul_le_mul_left _ hb;omega
end Go.AM
namespace Go.AM
open Go Go.RowKit
variable {P : Program} {Γ : Nat→List AV} {G : Gh} {s : AS} {w : World}
end Go.AM
namespace Go.AM
open Go Go.RowKit Go.ChangeShapes
variable {H : Type} {enc : TypeId × Value→H} {P : Program}
theorem iU {w : World} {base : Nat} {spare : Nat→Bool} {held : Bool} {fuel : Nat} {t e : TypeId} {d : DataW H} {p : List MemPlace} {cs : List Value} {ts : List TypeId} {ds : List (DataW H)} {j : Nat} {fs : Array Field} (hu : P.underlying t = some (.struct fs))
    (hz : (DataW.weightsEach P ts ds).all (·≤reachBytes) = true) (ht : ts[j]? = some t) (hd : ds[j]? = some d) (h : DataW.trod enc P w base spare held fuel t cs = some (d,p)) (i : Nat) {f : Field} (hf : fs[i]? = some f)
    (he : P.underlying f.type = some (.slice e)) (hb : 1≤P.bytesOf e) (hc : P.cellsOf f.type = 1) : ∀ a l c,cs[f.offset]? = some (.slice a l c)→l≤reachBytes:=by
  intro a l c Es;obtain ⟨xs,n,_,hx,hl,L5,bR⟩:=DataW.trod_struct hu h;simp only [Prod.mk.injEq] at hx;obtain ⟨rfl,_⟩:=hx;have h1:=bR i f hf;have hi : i < fs.size:=(Array.getElem?_eq_some_iff.1 hf).1;rw [hc,show (cs.drop f.offset).take 1 = [.slice a l c] from by
    obtain ⟨k1,k2⟩:=List.getElem?_eq_some_iff.1 Es;rw [List.drop_eq_getElem_cons k1,k2]; rfl,List.getElem?_eq_getElem (by omega)] at h1
  have hw : (DataW.weightsEach P (fs.toList.map (·.type)) (xs.map (·.1))).all (·≤reachBytes) = true:=by
    rw [List.all_eq_true];intro m hm;exact List.all_eq_true.1 hz m (DataW.weights_mem_each ht hd m (by simp only [DataW.weights,hu]; exact hm))
  refine r4 (v:=.slice a l c) (j:=i) (d:=(xs[i]'(by omega)).1) (p:=(xs[i]'(by omega)).2) he hw (by simp [List.getElem?_map,hf]) (by simp [List.getElem?_map,List.getElem?_eq_getElem (show i < xs.length by omega)]) (fuel:=n) (by simpa [Value.cells] using h1) hb a l c rfl
end Go.AM
namespace Go.AM
open Go Go.RowKit
theorem DF : type_of% (And.intro (And.intro (And.intro (And.intro (And.intro (And.intro @cy.eq_1 (And.intro @cy.eq_2 @cy.eq_3)) (And.intro @cy.eq_4 (And.intro @cy.eq_5 @cy.eq_6))) (And.intro
    (And.intro @cy.eq_7 (And.intro @cy.eq_8 @cy.eq_9)) (And.intro (And.intro @cy.eq_10 @cy.eq_11) (And.intro @cy.eq_12 @cy.eq_13)))) (And.intro (And.intro (And.intro
    @cy.eq_14 (And.intro @cy.eq_15 @cy.eq_16)) (And.intro @cy.eq_17 (And.intro @cy.eq_18 @cy.eq_19))) (And.intro (And.intro @gH.eq_1 (And.intro @gH.eq_2
    @gH.eq_3)) (And.intro (And.intro @gH.eq_4 @gH.eq_5) (And.intro @gH.eq_6 @gH.eq_7))))) (And.intro (And.intro (And.intro (And.intro @gH.eq_8 (And.intro @gH.eq_9
    @gH.eq_10)) (And.intro @gH.eq_11 (And.intro @gH.eq_12 @gH.eq_13))) (And.intro (And.intro @eY.eq_1 (And.intro @eY.eq_2 @eY.eq_3)) (And.intro (And.intro @eY.eq_4
    @eY.eq_5) (And.intro @eY.eq_6 @eY.eq_7)))) (And.intro (And.intro (And.intro @eY.eq_8 (And.intro @eY.eq_9 @eY.eq_10)) (And.intro @eY.eq_11 (And.intro @eY.eq_12
    @eY.eq_13))) (And.intro (And.intro @eY.eq_14 (And.intro @eY.eq_15 @eY.eq_16)) (And.intro (And.intro @uv.eq_1 @uv.eq_2) (And.intro @uv.eq_3 @wk.eq_1))))))
    (And.intro (And.intro (And.intro (And.intro (And.intro @wk.eq_2 (And.intro @wk.eq_3 @wk.eq_4)) (And.intro @mg.eq_1 (And.intro @mg.eq_2 @mg.eq_3))) (And.intro
    (And.intro @EB.eq_1 (And.intro @EB.eq_2 @EB.eq_3)) (And.intro (And.intro @EB.eq_4 @EB.eq_5) (And.intro @EB.eq_6 @dD.eq_1)))) (And.intro (And.intro (And.intro
    @dD.eq_2 (And.intro @dD.eq_3 @im.eq_1)) (And.intro @im.eq_2 (And.intro @im.eq_3 @im.eq_4))) (And.intro (And.intro @im.eq_5 (And.intro @iw.eq_1
    @iw.eq_2)) (And.intro (And.intro @placeOf.eq_1 @bm.eq_1) (And.intro @bm.eq_2 @undef.eq_1))))) (And.intro (And.intro (And.intro (And.intro @nB.eq_1 (And.intro
    @apart.eq_1 @aL.eq_1)) (And.intro @aL.eq_2 (And.intro @aL.eq_3 @aL.eq_4))) (And.intro (And.intro @bu.eq_1 (And.intro @bu.eq_2 @aF.eq_1)) (And.intro (And.intro
    @bz.eq_1 @mR.eq_1) (And.intro @az.eq_1 @az.eq_2)))) (And.intro (And.intro (And.intro @ar.eq_1 (And.intro @ar.eq_2 @jY.eq_1)) (And.intro @aj.eq_1
    (And.intro @Array.isEmpty.eq_1.{0} @List.isEmpty.eq_1.{0}))) (And.intro (And.intro @List.isEmpty.eq_2.{0} (And.intro @implies_true.{0} @implies_true.{1})) (And.intro (And.intro
    @forall_eq'.{1} @ne_eq.{1}) (And.intro @if_true.{1} @if_false.{1}))))))) :=
  (And.intro (And.intro (And.intro (And.intro (And.intro (And.intro @cy.eq_1 (And.intro @cy.eq_2 @cy.eq_3)) (And.intro @cy.eq_4 (And.intro @cy.eq_5 @cy.eq_6))) (And.intro
    (And.intro @cy.eq_7 (And.intro @cy.eq_8 @cy.eq_9)) (And.intro (And.intro @cy.eq_10 @cy.eq_11) (And.intro @cy.eq_12 @cy.eq_13)))) (And.intro (And.intro (And.intro
    @cy.eq_14 (And.intro @cy.eq_15 @cy.eq_16)) (And.intro @cy.eq_17 (And.intro @cy.eq_18 @cy.eq_19))) (And.intro (And.intro @gH.eq_1 (And.intro @gH.eq_2
    @gH.eq_3)) (And.intro (And.intro @gH.eq_4 @gH.eq_5) (And.intro @gH.eq_6 @gH.eq_7))))) (And.intro (And.intro (And.intro (And.intro @gH.eq_8 (And.intro @gH.eq_9
    @gH.eq_10)) (And.intro @gH.eq_11 (And.intro @gH.eq_12 @gH.eq_13))) (And.intro (And.intro @eY.eq_1 (And.intro @eY.eq_2 @eY.eq_3)) (And.intro (And.intro @eY.eq_4
    @eY.eq_5) (And.intro @eY.eq_6 @eY.eq_7)))) (And.intro (And.intro (And.intro @eY.eq_8 (And.intro @eY.eq_9 @eY.eq_10)) (And.intro @eY.eq_11 (And.intro @eY.eq_12
    @eY.eq_13))) (And.intro (And.intro @eY.eq_14 (And.intro @eY.eq_15 @eY.eq_16)) (And.intro (And.intro @uv.eq_1 @uv.eq_2) (And.intro @uv.eq_3 @wk.eq_1))))))
    (And.intro (And.intro (And.intro (And.intro (And.intro @wk.eq_2 (And.intro @wk.eq_3 @wk.eq_4)) (And.intro @mg.eq_1 (And.intro @mg.eq_2 @mg.eq_3))) (And.intro
    (And.intro @EB.eq_1 (And.intro @EB.eq_2 @EB.eq_3)) (And.intro (And.intro @EB.eq_4 @EB.eq_5) (And.intro @EB.eq_6 @dD.eq_1)))) (And.intro (And.intro (And.intro
    @dD.eq_2 (And.intro @dD.eq_3 @im.eq_1)) (And.intro @im.eq_2 (And.intro @im.eq_3 @im.eq_4))) (And.intro (And.intro @im.eq_5 (And.intro @iw.eq_1
    @iw.eq_2)) (And.intro (And.intro @placeOf.eq_1 @bm.eq_1) (And.intro @bm.eq_2 @undef.eq_1))))) (And.intro (And.intro (And.intro (And.intro @nB.eq_1 (And.intro
    @apart.eq_1 @aL.eq_1)) (And.intro @aL.eq_2 (And.intro @aL.eq_3 @aL.eq_4))) (And.intro (And.intro @bu.eq_1 (And.intro @bu.eq_2 @aF.eq_1)) (And.intro (And.intro
    @bz.eq_1 @mR.eq_1) (And.intro @az.eq_1 @az.eq_2)))) (And.intro (And.intro (And.intro @ar.eq_1 (And.intro @ar.eq_2 @jY.eq_1)) (And.intro @aj.eq_1
    (And.intro @Array.isEmpty.eq_1.{0} @List.isEmpty.eq_1.{0}))) (And.intro (And.intro @List.isEmpty.eq_2.{0} (And.intro @implies_true.{0} @implies_true.{1})) (And.intro (And.intro
    @forall_eq'.{1} @ne_eq.{1}) (And.intro @if_true.{1} @if_false.{1})))))))
theorem DB : type_of% (And.intro (And.intro (And.intro @Bool.not_true @Bool.not_false) (And.intro @Bool.false_eq_true @Bool.true_eq_false)) (And.intro (And.intro @false_imp_iff @true_imp_iff) (And.intro @decide_eq_true_eq @decide_eq_false_iff_not))) :=
  (And.intro (And.intro (And.intro @Bool.not_true @Bool.not_false) (And.intro @Bool.false_eq_true @Bool.true_eq_false)) (And.intro (And.intro @false_imp_iff @true_imp_iff) (And.intro @decide_eq_true_eq @decide_eq_false_iff_not)))
theorem DX : type_of% (And.intro (And.intro @List.contains_cons.{0} (And.intro @List.contains_nil.{0} @Bool.or_false)) (And.intro (And.intro @Bool.or_true @Bool.or_self) (And.intro @Bool.false_eq_true @Bool.false_or))) :=
  (And.intro (And.intro @List.contains_cons.{0} (And.intro @List.contains_nil.{0} @Bool.or_false)) (And.intro (And.intro @Bool.or_true @Bool.or_self) (And.intro @Bool.false_eq_true @Bool.false_or)))
theorem DT : type_of% (And.intro (And.intro @wU (And.intro @wW @wX)) (And.intro @rU (And.intro @uH @uI))) :=
  (And.intro (And.intro @wU (And.intro @wW @wX)) (And.intro @rU (And.intro @uH @uI)))
end Go.AM
namespace Go.AM
open Go Go.RowKit
variable {rd : Option Nat} {P : Program} {Γ : Nat→List AV} {G : Gh} {s : AS} {w : World} {N : Nat} {ops : Array Oper}
inductive Mk where
  | val
  | vQ
  | Jq (v : AV)
  | frz
def xae (P : Program) (o : Oper) : Option AV :=
  match o.op with
  | .makeSlice T (.const (.int _ n)) _ =>
    match P.underlying T with
    | some (.slice e)=>match bg P e with | some z=>some (.sl (P.cellsOf e) n.toNat (mI (n.toNat * P.cellsOf e) z) .no) | none=>none
    | _=>none
  | _=>none
def QV (P : Program) (N : Nat) (o : Oper) : Bool :=
  match o.guard,o.dst,o.op with
  | none,some d,.alloc T=>decide (d < N) && (bg P T).isSome
  | none,some d,.makeSlice T (.const (.int _ n)) (.const (.int _ m)) =>
    decide (d < N) && (match P.underlying T with
      | some (.slice e)=>(match bg P e with
        | some z=>decide (0≤n) && (decide (m = n) && (decide (P.bytesOf e * n≤70368744177664) && (decide (n≤70368744177664) && (decide (P.cellsOf e≠0) && decide (z.length = P.cellsOf e)))))
        | none=>false)
      | _=>false)
  | _,_,_=>false
def qG (ops : Array Oper) (o : Oper) (E : Env) : Prop :=
  match o.guard with
  | none=>True
  | some (j,want)=>match mR ops j with | some d=>E d = .v (.bool want) | none=>False
theorem Ah {ops : Array Oper} {o : Oper} {E E' : Env} (h : ∀ d,d ∈ o.looksAt ops→E' d = E d) (hv : qG ops o E) : qG ops o E':=by
  cases hg : o.guard with
  | none=>simp [qG,hg]
  | some g =>
    obtain ⟨j,want⟩:=g;simp only [qG,hg] at hv ⊢;cases hj : mR ops j with
    | none=>rw [hj] at hv; exact hv.elim
    | some d =>
      rw [hj] at hv;have : E' d = E d:=h d (by
        by_cases hd : d ∈ o.looksAt ops
        · exact hd
        · exact absurd hj (lE hd hg))
      simp only [this];exact hv
theorem Jr {P : Program} {Γ : Nat→List AV} {N : Nat} {ops : Array Oper} {o : Oper} {E : Env} {s : AS} {K : Env→AS→Prop} (hg : qG ops o E) : AX P Γ N ops [o] K E s↔AX P Γ N ops [{ o with guard:=none }] K E s:=by
  cases h : o.guard with
  | none =>
    have : ({ o with guard:=none } : Oper) = o:=(by cases o; simp_all);rw [this]
  | some g =>
    obtain ⟨j,want⟩:=g;simp only [qG,h] at hg;cases hj : mR ops j with
    | none=>rw [hj] at hg; exact hg.elim
    | some d =>
      rw [hj] at hg;have:=wO (P:=P) (Γ:=Γ) (N:=N) (rest:=[]) (K:=K) (s:=s) h hj hg;rw [ay] at this;rw [this,if_pos rfl]
def TP (P : Program) (Γ : Nat→List AV) (o : Oper) (E : Env) (v : AV) : Prop :=
  o.guard = none ∧
  match o.op with
  | .call { callee:=.value f,args,.. } =>
    match aL Γ E f with
    | .v (.func (.func k) first b6)=>first.isEmpty = true∧b6.isEmpty = true∧af P k = true∧∀ s,ai P Γ k (args.toList.map (aL Γ E)) s (fun r s'=>r = v∧s' = s)
    | _=>False
  | _=>False
def GV (P : Program) (Γ : Nat→List AV) (N : Nat) (ops : Array Oper) (m : Mk) (o : Oper) (E : Env) (v : AV) : Prop :=
  match m with
  | .Jq u=>v = u∧TP P Γ o E u
  | .val=>bY P Γ ops o E = some v
  | .frz=>qG ops o E∧QV P N { o with guard:=none } = true∧xae P o = some v
  | .vQ=>False
def Mk.du : Mk→Bool
  | .vQ=>true
  | _=>false
def QW (P : Program) (Γ : Nat→List AV) (N : Nat) (ops : Array Oper) : List (Oper × Mk)→(Env→AS→Prop)→Env→AS→Prop
  | [],K,E,s=>K E s
  | (o,m) :: rest,K,E,s =>
    if m.du = true then AX P Γ N ops [o] (QW P Γ N ops rest K) E s
    else (∀ d,o.dst = some d→d < N)∧∃ v,GV P Γ N ops m o E v∧QW P Γ N ops rest K (bu E o.dst v) s
theorem MP {o : Oper} {E : Env} {v : AV} {K : Env→AS→Prop} (hd : ∀ d,o.dst = some d→d < N) (hv : TP P Γ o E v) (h : K (bu E o.dst v) s) : AX P Γ N ops [o] K E s:=by
  obtain ⟨hg,hv⟩:=hv;simp only [AX,hg];refine ⟨hd,?_⟩;cases hc : o.op <;> rw [hc] at hv;case call c =>
    obtain ⟨callee,args,argTypes⟩:=c;cases callee with
    | value f =>
      simp only [bW,cy,cT];simp only at hv;split at hv
      · rename_i k first b6 hf
        simp only [hf];obtain ⟨h1,h2,h3,h4⟩:=hv;refine ⟨h1,h2,h3,(h4 s).mono ?_⟩;rintro r s' ⟨rfl,rfl⟩;exact h
      · cases hv
    | invoke r m=>cases hv
    | builtin b=>cases hv
  all_goals cases hv
theorem QX {o : Oper} {m : Mk} (YW : m≠.frz) {L : List (Oper × Mk)} {E : Env} {K : Env→AS→Prop} (h : QW P Γ N ops ((o,m) :: L) K E s) : AX P Γ N ops [o] (QW P Γ N ops L K) E s:=by
  simp only [QW] at h;split at h
  · exact h
  · obtain ⟨hd,v,hv,h⟩:=h;cases m with
    | Jq u =>
      obtain ⟨rfl,hv⟩:=hv;exact MP hd hv h
    | vQ=>exact hv.elim
    | frz=>exact absurd rfl YW
    | val =>
      have hv : bY P Γ ops o E = some v:=hv;have : ov P Γ N ops [(o,false)] (QW P Γ N ops L K) E s:=by
        simp only [ov,Bool.false_eq_true,if_false,hv];exact ⟨hd,h⟩
      have:=EO this;simpa only [ov] using this
def YX (P : Program) (Γ : Nat→List AV) (N : Nat) (ops : Array Oper) (o : Oper) : Prop :=
  ∃ (v : Nat→AV) (z : List AV),∀ (E : Env) (s : AS) (K : Env→AS→Prop),AX P Γ N ops [o] K E s↔∀ ob,s.av ob = none→K (bu E o.dst (v ob)) (s.set ob z)
def nF : List (Nat × AV)→Nat→Option AV
  | [],_=>none
  | (i,v) :: L,k=>if k = i then some v else nF L k
theorem px {k : Nat} : nF [] k = none:=rfl
theorem mX {i k : Nat} {v : AV} {L : List (Nat × AV)} : nF ((i,v) :: L) k = if k = i then some v else nF L k:=rfl
section
variable {Q : Exit→Env→AS→Prop} {E : Env}
end
end Go.AM
namespace Go.AM
open Go Go.RowKit
variable {rd : Option Nat} {P : Program} {Γ : Nat→List AV} {G : Gh} {s : AS} {w : World} {N : Nat} {ops : Array Oper}
variable {Q : Exit→Env→AS→Prop} {E : Env}
theorem Js {s : AS} {o1 o2 : Nat} (h : o1≠o2) (a b c d : List AV) : (((s.set o1 a).set o2 b).set o1 c).set o2 d = (s.set o1 c).set o2 d:=by
  rw [AS.MH _ h,AS.set_set]
end Go.AM
namespace Go.AM
open Go Go.RowKit
variable {P : Program} {Γ : Nat→List AV} {G : Gh} {s : AS} {w : World} {N : Nat}
def AS.tells (Γ : Nat→List AV) (s s' : AS) : Prop:=∀ G w,aN Γ G s w→aN Γ G s' w
theorem aN.MQ {o : Nat} {cs cs' : List AV} (h : aN Γ G s w) (ho : s.av o = some cs) (hw : fU.aB cs cs') : aN Γ G (s.set o cs') w:=by
  refine ⟨h.ro,?_,h.cK,h.inj,h.own,h.cx,h.bJ,h.cn,h.bU,h.below,h.others,h.base,h.gA,h.soft⟩;intro o' ds hd;by_cases e : o' = o
  · subst e;rw [AS.ae] at hd;cases hd;obtain ⟨b,vs,h1,h2,h3,h4⟩:=h.av o' cs ho;exact ⟨b,vs,h1,hw G vs h2,h3,h4⟩
  · rw [AS.ao _ e] at hd;exact h.av o' ds hd
theorem AS.tq {o : Nat} {cs cs' : List AV} (ho : s.av o = some cs) (hw : fU.aB cs cs') : AS.tells Γ s (s.set o cs'):=fun _ _ h=>h.MQ ho hw
theorem Aj {c : Code} {Q : Exit→Env→AS→Prop} {E : Env} {s s' : AS} (h : AS.tells Γ s s') (k : ch P Γ N c Q E s') : ch P Γ N c Q E s :=
  fun G a w hr=>k G a w ⟨h G w hr.st,hr.size,hr.tmps,hr.defers⟩
def dz (sz : Nat) (s0 s : AS) (x : AV) (n : Nat) (cs : List AV) : Prop:=(x = bO∧n = 0∧cs = [])∨∃ t e,x = .sl sz n cs (.own t e)∧s.own t = some e∧s0.own t = none
theorem dz.aB {sz : Nat} {s0 s : AS} {x : AV} {n : Nat} {cs : List AV} (h : dz sz s0 s x n cs) : x.aB (.sl sz n cs .any):=by
  rcases h with ⟨rfl,rfl,rfl⟩ | ⟨t,e,rfl,_,_⟩
  · exact AV.aI
  · exact AV.bQ
theorem dz.one {sz : Nat} {s0 s : AS} {x : AV} {n : Nat} {cs : List AV} (h : dz sz s0 s x n cs) : x.one = true:=by
  rcases h with ⟨rfl,_,_⟩ | ⟨t,e,rfl,_,_⟩
  · rfl
  · rfl
theorem dz.nil (sz : Nat) (s0 s : AS) : dz sz s0 s bO 0 []:=.inl ⟨rfl,rfl,rfl⟩
theorem dz.own {sz : Nat} {s0 s s' : AS} {x : AV} {n : Nat} {cs : List AV} (h : dz sz s0 s x n cs) (k : ∀ t e,s.own t = some e→s0.own t = none→s'.own t = some e) : dz sz s0 s' x n cs:=by
  rcases h with h | ⟨t,e,h1,h2,h3⟩
  · exact .inl h
  · exact .inr ⟨t,e,h1,k t e h2 h3,h3⟩
end Go.AM
