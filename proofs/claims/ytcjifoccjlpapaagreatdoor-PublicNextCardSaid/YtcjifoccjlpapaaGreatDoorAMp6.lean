/- An abstract machine for the model and the rules of its walk, each proved sound over the model; no condition. -/
import Derived.Test.YtcjifoccjlpapaaGreatDoorAMp5
import Derived.RangeFuncIn
import Derived.RangeFuncRecord
import Derived.RangeFuncSeq
import Derived.RangeFuncLeaves
import Derived.Test.YtcjifoccjlpapaaGreatDoorAMp4
import Derived.SizedLaws
import Derived.OpenShut
set_option linter.unusedSimpArgs false
set_option linter.unusedVariables false
namespace Go.AM
open Go Go.RowKit
variable {rd : Option Nat} {P : Program} {Γ : Nat→List AV} {G : Gh} {s : AS} {w : World}
theorem qx {N : Nat} {E : Env} {Q : Exit→Env→AS→Prop} {id : Nat} (L1 L2 : List Oper) {o : Oper} {code : Code} (hg : o.guard = none) (hd : ∀ d,o.dst = some d→d < N)
    (h : AY P Γ N (L1 ++ o :: L2).toArray L1 (fun E1 s1=>∃ K1 : AV→AS→Prop,(∀ G a w,Rel Γ N G E1 s1 a w→cJ P Γ G K1 ((execOp a.eval o).run P w)) ∧
      ∀ r s2,K1 r s2→AY P Γ N (L1 ++ o :: L2).toArray L2 (fun E' s'=>cI P Γ N code Q E' s') (bD E1 o.dst r) s2) E s) :
    cI P Γ N (.seq (.region id (L1 ++ o :: L2).toArray false) code) Q E s:=by
  rw [ay] at h;refine kk ?_;intro G a w hr;refine wpIn_region ?_;have bT : ∀ ops : Array Oper,(List.range ops.size).map (ops[·]?) = ops.toList.map some:=by
    intro ops;apply List.ext_getElem?;intro i;simp only [List.getElem?_map];by_cases hi : i < ops.size
    · simp [hi]
    · simp [hi]
  have kU:=bT (L1 ++ o :: L2).toArray;generalize hI : List.range (L1 ++ o :: L2).toArray.size = I at kU;have h1 : (I.take L1.length).map ((L1 ++ o :: L2).toArray[·]?) = L1.map some:=by
    rw [List.map_take,kU]; simp
  have h2 : (I.drop L1.length).map ((L1 ++ o :: L2).toArray[·]?) = (o :: L2).map some:=by
    rw [List.map_drop,kU]; simp
  rw [← List.take_append_drop L1.length I];generalize I.take L1.length = I1 at h1;generalize I.drop L1.length = I2 at h2;cases I2 with
  | nil=>simp at h2
  | cons i I2 =>
    simp only [List.map_cons,List.cons.injEq] at h2;refine dv L1 I1 (i :: I2) h1 (dD _ h) hr ?_;rintro G1 E1 s1 a1 w1 kV nF ⟨⟨K1,nf,hk⟩,zp⟩;rw [wpOpsIn_cons];simp only [wpOpIn,h2.1];rw [if_pos (du hg)];refine (Oper.jx nF hd (nf G1 a1 w1 nF) ?_);intro G3 r s3 a3 w3 N6 sF hK;refine kA L2 I2 h2.2 (dD _ (hk r s3 hK)) sF ?_;rintro G4 E4 s4 a4 w4 Sa Ci ⟨KR,Hs⟩;refine ⟨G4,E4,s4,kV.trans (N6.trans Sa),Ci,KR,?_⟩;intro i hi;have mem : ∀ L : List Oper,i ∈ bP L↔∃ o ∈ L,o.dst = some i:=(fun L=>by simp [bP,List.mem_filterMap]);have aO : ¬ ∃ o' ∈ L1 ++ o :: L2,o'.dst = some i:=fun hm=>hi ((mem _).2 hm);have m1 : i ∉ bP L1:=fun hm=>aO (by obtain ⟨o,k1,k2⟩:=(mem _).1 hm; exact ⟨o,by simp [k1],k2⟩);have m2 : i ∉ bP L2:=fun hm=>aO (by obtain ⟨o,k1,k2⟩:=(mem _).1 hm; exact ⟨o,by simp [k1],k2⟩);have m3 : o.dst≠some i:=fun e=>aO ⟨o,by simp,e⟩;rw [Hs i m2,cq m3,zp i m1]
theorem De {N : Nat} {E : Env} {Q : Exit→Env→AS→Prop} {id : Nat} {L2 : List Oper} {o : Oper} {code : Code} (hg : o.guard = none) (hd : ∀ d,o.dst = some d→d < N) (K1 : AV→AS→Prop)
    (nf : ∀ G a w,Rel Γ N G E s a w→cJ P Γ G K1 ((execOp a.eval o).run P w))
    (h : ∀ r s2,K1 r s2→AY P Γ N (o :: L2).toArray L2 (fun E' s'=>cI P Γ N code Q E' s') (bD E o.dst r) s2) :
    cI P Γ N (.seq (.region id (o :: L2).toArray false) code) Q E s :=
  qx [] L2 hg hd (by rw [Hl]; exact ⟨K1,nf,h⟩)
theorem EZ {ρ : Operand→AV} {ρ' : Operand→Value} {o : Oper} {T : TypeId} {len : Nat} {parts : Array (Nat × Operand)} {cs z : List AV} {e : TypeId} (ho : o.op = .buildSlice T len parts)
    (hu : P.underlying T = some (.slice e)) (hz : bE P e = some z) (c1 : P.cellsOf e≠0) (c2 : len * P.cellsOf e≤2 ^ 24) (c3 : z.length = P.cellsOf e)
    (h1 : iU (fun i=>some (i * P.cellsOf e,P.cellsOf e)) (ig (len * P.cellsOf e) z) (parts.toList.map fun p=>(p.1,ρ p.2)) = some cs) (hρ : ∀ x,ar G (ρ x) (ρ' x)) (hs : aU Γ G s w) :
    cJ P Γ G (fun r s'=>∃ ob,s.aJ ob = none∧r = .dj ob 0 (P.cellsOf e) len len∧s' = s.set ob cs) ((execOp ρ' o).run P w):=by
  obtain ⟨v,hv,rfl⟩:=dt hz;have dz : v.cells.toList≠[]:=by
    intro e';rw [e'] at c3;simp at c3;omega
  obtain ⟨vs,h2,h3⟩:=iM (G:=G) (qs:=(parts.map fun p=>(p.1,ρ' p.2)).toList) _ h1 (by simpa using fP.of_map hρ parts.toList) (lZ (len * P.cellsOf e) dz);obtain ⟨ob,k1,k2,k3,k4⟩:=hs.newObj h3 e;refine (show execOp ρ' o = (do pure (.value (← Instr.buildSlice T len (parts.map fun p=>(p.1,ρ' p.2))))) by simp only [execOp,ho]) ▸ ew ⟨_,.slice (some ⟨w.heap.size,0,none⟩) len len,_,_,_,?_,k2,k3,?_,ob,k1,rfl,rfl⟩
  · simp only [Instr.buildSlice,Sem.run_bind,run_underlying hu,Result.andThen_ok,aV c1];rw [if_neg (by omega)];by_cases h0 : len * P.cellsOf e = 0
    · have cZ : (Array.range (len * P.cellsOf e)).map (fun i=>(#[] : Array Value)[i % (#[] : Array Value).size]!) = ((List.range (len * P.cellsOf e)).map fun i=>v.cells.toList.toArray[i % v.cells.toList.toArray.size]!).toArray:=by
        rw [h0]; simp
      rw [if_pos h0];simp only [Sem.run_bind,Sem.run_pure,Result.andThen_ok,cZ];simp only [h2];simp [newRow]
    · have cZ : (Array.range (len * P.cellsOf e)).map (fun i=>v.cells[i % v.cells.size]!) = ((List.range (len * P.cellsOf e)).map fun i=>v.cells.toList.toArray[i % v.cells.toList.toArray.size]!).toArray:=by
        apply Array.ext';simp
      rw [if_neg h0];simp only [Sem.run_bind,hv,Sem.run_pure,Result.andThen_ok,cZ];simp only [h2];simp [newRow]
  · simp only [ar];exact ⟨_,k4,rfl,Nat.le_refl _⟩
end Go.AM
namespace Go.AM
open Go Go.RowKit
variable {P : Program} {Γ : Nat→List AV} {G : Gh} {s : AS} {w : World} {N : Nat} {E : Env}
theorem Oper.xu {l : Option Nat} {a : Act} {o : Oper} {K : AV→AS→Prop} {next : Act→World→Prop} {Q : Exit→Act→World→Prop} (hnd : ∀ c,o.op≠.defer c) (hr : Rel Γ N G E s a w) (hd : ∀ d,o.dst = some d→d < N)
    (h : cJ P Γ G K ((execOp a.eval o).run P w)) (hn : ∀ G' r s' a' w',G.le G'→Rel Γ N G' (bD E o.dst r) s' a' w'→K r s'→next a' w') : o.wpIn (xf l) 0 P a w next Q:=by
  refine ⟨fun _ _=>trivial,?_⟩;rw [Oper.semAt_eq _ _ _ hnd];generalize (execOp a.eval o).run P w = R at h;cases R with
  | ok n w' =>
    cases n <;> simp only [cJ] at h;case value v =>
      obtain ⟨G',r,s',h1,h2,h3,h4⟩:=h;simp only [Oper.uponIn];exact hn G' r s' _ _ h1 (hr.put h1 h2 h3 hd) h4
    case skip =>
      obtain ⟨G',s',h1,h2,h3⟩:=h;simp only [Oper.uponIn];exact hn G' (.v undef) s' _ _ h1 (hr.put h1 h2 (by simp [ar]) hd) h3
    case enter f args =>
      simp only [Oper.uponIn];refine ⟨(fun e=>by cases e),CallsIn.mono (F:=Fence.wide) (callsIn_wide.2 h) ?_⟩;rintro e yt ⟨G',r,v,s',rfl,h1,h2,h3,h4⟩;exact hn G' r s' _ _ h1 (hr.put h1 h2 h3 hd) h4
  | halt x w'=>simp only [cJ] at h
theorem xv {ρ : Operand→AV} {K : AV→AS→Prop} {op : Op} (h : cE P Γ ρ s K op) (c : Call) : op≠.defer c:=by
  rintro rfl;simp [cE,dg,dJ] at h
theorem Cj {l : Option Nat} {a : Act} {ops : Array Oper} {i : Nat} {I : List Nat} {o : Oper} {L : List Oper} {K : Env→AS→Prop} {Q : Exit→Act→World→Prop} (ho : ops[i]? = some o)
    (h : AX P Γ N ops (o :: L) K E s) (hr : Rel Γ N G E s a w) (hn : ∀ G' E' s' a' w',G.le G'→Rel Γ N G' E' s' a' w'→AX P Γ N ops L K E' s'→wpOpsIn (xf l) 0 P ops Q I a' w') : wpOpsIn (xf l) 0 P ops Q (i :: I) a w:=by
  simp only [AX] at h;obtain ⟨hd,h⟩:=h;simp only [wpOpsIn,ho];split at h
  · rename_i hg;rw [if_pos (du hg)];exact Oper.xu (xv h) hr hd (kz o h hr.eval hr.st) fun G' r s' a' w' h1 h2 h3=>hn G' _ s' a' w' h1 h2 h3
  · rename_i j want hg;split at h
    · exact h.elim
    · rename_i d hj;split at h
      · rename_i t hE;have hy:=yR hr hj hE;have hw : Region.wanted o (yielded ops a.tmps) = (t == want):=(by simp [Region.wanted,hg,hy]);split at h
        · rename_i ht;rw [if_pos (by rw [hw]; simpa using ht)];exact Oper.xu (xv h) hr hd (kz o h hr.eval hr.st) fun G' r s' a' w' h1 h2 h3=>hn G' _ s' a' w' h1 h2 h3
        · rename_i ht;rw [if_neg (by rw [hw]; simpa using ht)];exact ⟨fun _ _=>trivial,hn G _ s _ _ (.refl G) (hr.put (.refl G) hr.st (by simp [ar]) hd) h⟩
      · rename_i c hE;have hy:=ud hr hj hE;have hw : Region.wanted o (yielded ops a.tmps) = false:=(by simp [Region.wanted,hg,hy]);rw [if_neg (by rw [hw]; simp)];exact ⟨fun _ _=>trivial,hn G _ s _ _ (.refl G) (hr.put (.refl G) hr.st (by simp [ar]) hd) h⟩
      · exact h.elim
theorem ja {l : Option Nat} {ops : Array Oper} {Q : Exit→Act→World→Prop} {K : Env→AS→Prop} : ∀ (L : List Oper) (I J : List Nat) {G : Gh} {E : Env} {s : AS} {a : Act} {w : World},I.map (ops[·]?) = L.map some→AX P Γ N ops L K E s→Rel Γ N G E s a w →
    (∀ G' E' s' a' w',G.le G'→Rel Γ N G' E' s' a' w'→K E' s'→wpOpsIn (xf l) 0 P ops Q J a' w')→wpOpsIn (xf l) 0 P ops Q (I ++ J) a w
  | [],I,J,G,E,s,a,w,hI,h,hr,hq=>by
    have : I = []:=(by simpa using hI);subst this;exact hq G E s a w (.refl G) hr h
  | o :: L,I,J,G,E,s,a,w,hI,h,hr,hq=>by
    cases I with
    | nil=>simp at hI
    | cons i I =>
      simp only [List.map_cons,List.cons.injEq] at hI;exact Cj hI.1 h hr fun G' E' s' a' w' h1 h2 h3=>ja L I J hI.2 h3 h2 fun yu iG im BZ yt k1 k2 k3=>hq yu iG im BZ yt (h1.trans k1) k2 k3
theorem pt {l : Option Nat} {ops : Array Oper} {Q : Exit→Act→World→Prop} {K : Env→AS→Prop} : ∀ (L : List Oper) (I : List Nat) {G : Gh} {E : Env} {s : AS} {a : Act} {w : World},I.map (ops[·]?) = L.map some→AX P Γ N ops L K E s→Rel Γ N G E s a w →
    (∀ G' E' s' a' w',G.le G'→Rel Γ N G' E' s' a' w'→K E' s'→Q .normal a' w')→wpOpsIn (xf l) 0 P ops Q I a w
  | [],I,G,E,s,a,w,hI,h,hr,hq=>by
    have : I = []:=(by simpa using hI);subst this;exact hq G E s a w (.refl G) hr h
  | o :: L,I,G,E,s,a,w,hI,h,hr,hq=>by
    cases I with
    | nil=>simp at hI
    | cons i I =>
      simp only [List.map_cons,List.cons.injEq] at hI;exact Cj hI.1 h hr fun G' E' s' a' w' h1 h2 h3=>pt L I hI.2 h3 h2 fun yu iG im BZ yt k1 k2 k3=>hq yu iG im BZ yt (h1.trans k1) k2 k3
theorem mq {l : Option Nat} {id : Nat} {ops : Array Oper} {Q : Exit→Act→World→Prop} {K : Env→AS→Prop} {a : Act} (h : AY P Γ N ops ops.toList K E s) (hr : Rel Γ N G E s a w)
    (hq : ∀ G' E' s' a' w',G.le G'→Rel Γ N G' E' s' a' w'→K E' s'→Q .normal a' w') : (Code.region id ops false).wpIn (xf l) 0 P Q a w:=by
  rw [ay] at h;refine wpIn_region (pt ops.toList _ ?_ h hr hq);apply List.ext_getElem?;intro i;simp only [List.getElem?_map];by_cases hi : i < ops.size
  · simp [hi]
  · simp [hi]
theorem Fa {W : World} {k : Nat} {o o' : Obj} (hk : W.heap[k]? = some o) (ho : ∀ c T f,o≠.cells c T f) (sq : ∀ c T f,o'≠.cells c T f) (b j : Nat) : (W.putObj k o').cell? ⟨b,j,none⟩ = W.cell? ⟨b,j,none⟩:=by
  by_cases e : b = k
  · subst e;have h1:=World.putObj_heap_same (w:=W) (o:=o') (Array.getElem?_eq_some_iff.1 hk).1;simp only [World.cell?,h1,hk];cases o <;> cases o' <;> first | rfl | exact absurd rfl (ho _ _ _) | exact absurd rfl (sq _ _ _)
  · exact World.cell?_of_block (World.putObj_heap_other e)
theorem Bg {W : World} {k : Nat} {o o' : Obj} (hk : W.heap[k]? = some o) (ho : ∀ c T f,o≠.cells c T f) (sq : ∀ c T f,o'≠.cells c T f) (b j : Nat) : (W.putObj k o').frozen? ⟨b,j,none⟩ = W.frozen? ⟨b,j,none⟩:=by
  by_cases e : b = k
  · subst e;have h1:=World.putObj_heap_same (w:=W) (o:=o') (Array.getElem?_eq_some_iff.1 hk).1;simp only [World.frozen?,h1,hk];cases o <;> cases o' <;> first | rfl | exact absurd rfl (ho _ _ _) | exact absurd rfl (sq _ _ _)
  · exact World.frozen?_of_block (World.putObj_heap_other e)
theorem aU.putObj {W : World} {k : Nat} {o o' : Obj} (h : aU Γ G s W) (hk : W.heap[k]? = some o) (ho : ∀ c T f,o≠.cells c T f) (sq : ∀ c T f,o'≠.cells c T f) (hB : G.w0.heap.size≤k) (hB' : G.B≤k) : aU Γ G s (W.putObj k o'):=by
  have hg : W.grownBy (W.putObj k o') (some k):=⟨rfl,rfl,rfl,by simp [World.putObj],fun i _ hi=>World.putObj_heap_other (fun e=>hi (by rw [e]))⟩;refine h.CZ (fun b j=>Fa hk ho sq b j) (fun b j _ _=>Bg hk ho sq b j) (by simp [World.putObj]) ?_ ?_ ?_
  · exact (Below.refl _ _).grown hg (by have:=(Array.getElem?_eq_some_iff.1 hk).1; omega) (fun i e=>by cases e; omega)
  · intro i x hi hx;have cN:=(Array.getElem?_eq_some_iff.1 hi).1;rw [World.putObj_heap_other (by omega)];exact h.others i x hi hx
  · intro b c T lo hi hb hc;by_cases e : b = k
    · subst e;rw [World.putObj_heap_same (Array.getElem?_eq_some_iff.1 hk).1] at hc;cases hc;exact absurd rfl (sq _ _ _)
    · rw [World.putObj_heap_other e] at hc;exact h.soft b c T lo hi hb hc
def QF (P : Program) (Γ : Nat→List AV) (gf : FuncId) (dm : List AV) (xs : List AV) : Prop :=
  ∀ (S : Nat→AS) (l : Nat) (G : Gh) (W : World) (lb : List Value),G.df = []→al G dm lb→aU Γ G (S 0) W →
    (∀ i x G1 u W1,xs[i]? = some x→G.le G1→aU Γ G1 (S i) W1→ar G1 x u→YieldAt Fence.wide 0 P l #[u] W1 fun e W'=>e = .returned (.bool true)∧∃ G2,G1.le G2∧aU Γ G2 (S (i + 1)) W') →
    CallsIn Fence.wide 0 P gf (#[.func (.yield l) #[] #[]] ++ lb.toArray) W fun e W'=>(∃ v,e = .returned v)∧∃ G2,G.le G2∧aU Γ G2 (S xs.length) W'
theorem zq {a : Act} {g : Operand} {p : Tmp} {assign body : Code} {gf : FuncId} {dm xs : List AV} (hr : Rel Γ N G E s a w) (vN : G.df = []) (hg : aN Γ E g = .tN gf dm) (IQ : ai P gf = true) (KT : QF P Γ gf dm xs)
    (hp : p < N) (S : Nat→AS) (hS : S 0 = s) (E1 : AV→Env)
    (OJ : ∀ (l i : Nat) (x : AV) (G1 : Gh) (a1 : Act) (W : World),xs[i]? = some x→Rel Γ N G1 (aG E p x) (S i) a1 W →
      assign.wpIn (xf (some l)) 0 P (fun e a' W'=>e = .normal∧∃ G2,G1.le G2∧Rel Γ N G2 (E1 x) (S i) a' W') a1 W)
    (UW : ∀ (l i : Nat) (x : AV) (G1 : Gh) (a1 : Act) (W : World),xs[i]? = some x→Rel Γ N G1 (E1 x) (S i) a1 W →
      body.wpIn (xf (some l)) 0 P (fun e a' W'=>e = .normal∧∃ G2,G1.le G2∧aU Γ G2 (S (i + 1)) W') a1 W) :
    (Code.rangeFunc g #[p] assign body).wpIn Fence.wide 0 P (fun e a' w'=>e = .normal∧∃ D G',G.le G'∧w.heap.size≤D∧w'.heap[D]? = some (.deferred (some [])) ∧
      a' = { a with defers:={ target:=.collected D,args:=#[] } :: a.defers }∧aU Γ G' (S xs.length) w') a w:=by
  have Sb:=hr.eval g;rw [hg] at Sb;simp only [ar] at Sb;obtain ⟨lb,Sc,Sd⟩:=Sb;have Lq : G.w0.heap.size≤w.heap.size:=hr.st.below.size;have hBw : G.B≤w.heap.size:=hr.st.base;refine wpIn_rangeFunc ?_;intro fn UX;obtain ⟨rec,qy⟩ : ∃ rec : LoopState→Option Code→Loop,rec = fun st pe=>{ state:=st,pending:=pe,fn,tmps:=a.tmps,params:=#[p],assign,body,defers:=w.heap.size }:=⟨_,rfl⟩;obtain ⟨W1,OK⟩ : ∃ W1,(w.alloc (.deferred (some []))).alloc (.loop (rec .ready none)) = W1:=⟨_,rfl⟩;have Se : W1.heap[w.heap.size + 1]? = some (.loop (rec .ready none)):=by
    rw [← OK]; have:=World.alloc_heap_new (w.alloc (.deferred (some []))) (.loop (rec .ready none)); rwa [World.size_alloc] at this
  have tQ : W1.heap[w.heap.size]? = some (.deferred (some [])):=by
    rw [← OK]; exact (Below.heap_alloc _ _ _ (by simp)).trans (World.alloc_heap_new w _)
  have vE : aU Γ G s W1:=by
    rw [← OK]; exact (hr.st.alloc _ (by intro c T lo hi e; cases e)).alloc _ (by intro c T lo hi e; cases e)
  refine ⟨w.heap.size + 1,[{ target:=.collected w.heap.size,args:=#[] }],W1,{ target:=.fn (.func gf) lb.toArray,args:=#[.func (.yield (w.heap.size + 1)) #[] #[]] },W1,gf,
    #[.func (.yield (w.heap.size + 1)) #[] #[]] ++ lb.toArray,W1,?_,?_,?_,?_,(fun e=>by cases e),?_⟩
  · rw [← OK,qy]; exact run_enterLoop_outer _ _ _ _ _
  · simp only [resolve,Sc];simp [go_sem]
  · intro f' _; trivial
  · have:=lz (w:=W1) IQ (#[.func (.yield (w.heap.size + 1)) #[] #[]] ++ lb.toArray);simpa [invoke,go_sem] using this
  · have hsW : aU Γ (G.setW W1) s W1:=vE.setW;refine (KT S (w.heap.size + 1) (G.setW W1) W1 lb vN (al.sub (G.ir W1) _ _ Sd) (hS ▸ hsW) ?_).mono ?_
    · rintro i x G1 u W hx hle h2 hu;have KU : G1.w0 = W1:=hle.w0;have Sf : G1.B = G.B:=hle.B;have JZ : dS W1 W:=(by have:=h2.others; rwa [KU] at this);have hl:=JZ _ _ Se (by intros; simp);have hk:=JZ _ _ tQ (by intros; simp);have hbW : Below G.B W1 W:=(by have:=h2.below; rwa [KU,Sf] at this);obtain ⟨q1,q2⟩:=vE.tW hle h2;have cN : w.heap.size + 1 < W.heap.size:=(Array.getElem?_eq_some_iff.1 hl).1;have hy:=run_yield (P:=P) (args:=#[u]) hl (by rw [qy]; rfl);rw [qy] at hy;refine ⟨fn,_,assign,body,hy,roundIn_of_wpIn UX ?_⟩;have LI : Rel Γ N ((G1.setW G.w0).setW W) (aG E p x) (S i) { tmps:=((#[p] : Array Tmp).zip #[u]).foldl (fun t (p,v)=>t.setIfInBounds p v) a.tmps,defers:=[] } W:=by
        have e3 : ((#[p] : Array Tmp).zip #[u]).foldl (fun t (p,v)=>t.setIfInBounds p v) a.tmps = a.tmps.setIfInBounds p u:=(by simp);rw [e3];refine ⟨q1.setW,by simp [hr.size],fun k=>?_,by rw [show ((G1.setW G.w0).setW W).df = G1.df from rfl,hle.df]; exact vN.symm⟩;refine ar.sub (G:=G1.setW G.w0) (Gh.ir _ _) _ _ ?_;simp only [aG];split
        · rename_i e;subst e;have : k < a.tmps.size:=(by rw [hr.size]; exact hp);simpa [Array.getD,this] using ar.sub (G1.ir G.w0) _ _ hu
        · rename_i e;have:=ar.mono q2 _ _ (hr.tmps k);simp only [Array.getD_eq_getD_getElem?] at this ⊢;rw [Array.getElem?_setIfInBounds_ne (by omega)];exact this
      refine wpIn_mono (OJ (w.heap.size + 1) i x _ _ W hx LI) ?_;rintro e a1 Wa ⟨rfl,Ga,Bh,J0⟩;have Sg : dS W Wa:=by
        have:=J0.st.others;rwa [show Ga.w0 = W from Bh.w0] at this
      have hba : Below G.B W Wa:=by
        have:=J0.st.below;rwa [show Ga.w0 = W from Bh.w0,show Ga.B = G.B from Bh.B.trans Sf] at this
      have Sh:=Sg _ _ hl (by intros; simp);have xa1:=Sg _ _ hk (by intros; simp);obtain ⟨gb1,gb2⟩:=q1.tW Bh J0.st;refine ⟨_,run_beginRound Sh (by rw [qy]),?_⟩;have LJ : w.heap.size + 1 < Wa.heap.size:=(Array.getElem?_eq_some_iff.1 Sh).1;obtain ⟨W2,LK⟩ : ∃ W2,Wa.putObj (w.heap.size + 1) (.loop { rec .ready none with state:=.busy }) = W2:=⟨_,rfl⟩;have Ba : W2.heap[w.heap.size + 1]? = some (.loop { rec .ready none with state:=.busy }):=(by rw [← LK]; exact World.putObj_heap_same LJ);have hBa : Ga.B = G.B:=Bh.B.trans Sf;have vC : aU Γ (Ga.setW G.w0) (S i) W2:=by
        rw [← LK];exact gb1.putObj Sh (by intros; simp) (by intros; simp) (by show G.w0.heap.size≤_; omega) (by show Ga.B≤_; omega)
      rw [LK];have C8 : Rel Γ N ((Ga.setW G.w0).setW W2) (E1 x) (S i) a1 W2 :=
        ⟨vC.setW,J0.size,fun k=>ar.sub (G:=Ga) (G':=(Ga.setW G.w0).setW W2) ⟨rfl,rfl,rfl,rfl⟩ _ _ (J0.tmps k),J0.defers⟩
      refine wpIn_mono (UW (w.heap.size + 1) i x _ _ W2 hx C8) ?_;rintro e a3 W3 ⟨rfl,G2,g1,g2⟩;have T9 : G2.w0 = W2:=g1.w0;have UY : G2.B = G.B:=g1.B.trans hBa;have Ou : dS W2 W3:=by
        have:=g2.others;rwa [T9] at this
      have N7 : Below G.B W2 W3:=by
        have:=g2.below;rwa [T9,UY] at this
      have N4:=Ou _ _ Ba (by intros; simp);obtain ⟨g3,g4⟩:=vC.tW g1 g2;have sF : (Instr.endRound (w.heap.size + 1) none).run P W3 = .ok (.bool true) (W3.putObj (w.heap.size + 1) (.loop (rec .ready none))):=by
        have:=run_endRound (P:=P) none N4;rw [qy] at this ⊢;exact this
      have Bi : w.heap.size + 1 < W3.heap.size:=(Array.getElem?_eq_some_iff.1 N4).1;have N8:=g3.putObj (o':=.loop (rec .ready none)) N4 (by intros; simp) (by intros; simp) (by show G.w0.heap.size≤_; omega) (by show G2.B≤_; omega);have LM : ∀ (V : World) (o : Obj),w.heap.size + 1 < V.heap.size→Below G.B V (V.putObj (w.heap.size + 1) o):=fun V o hV =>
        (Below.refl _ _).grown (row:=some (w.heap.size + 1)) ⟨rfl,rfl,rfl,by simp [World.putObj],fun i _ hi=>World.putObj_heap_other (fun e=>hi (by rw [e]))⟩ (by omega) (fun i e=>by cases e; omega)
      refine ⟨_,_,sF,rfl,G2.setW W1,?_,?_⟩
      · exact ⟨fun b j v hv=>g1.ro b j v (Bh.ro b j v hv),fun o b hb=>g1.obj o b (Bh.obj o b hb),fun t e r ht=>g1.tok t e r (Bh.tok t e r ht),g1.B.trans Bh.B,KU.symm,g1.df.trans Bh.df⟩
      · refine N8.sub (G:=G2.setW G.w0) (G':=G2.setW W1) ⟨rfl,rfl,rfl,rfl⟩ rfl rfl ?_ ?_
        · show Below G2.B W1 _;rw [UY];refine (hbW.trans hba).trans (Below.trans ?_ (N7.trans (LM _ _ Bi)));rw [← LK];exact LM _ _ LJ
        · intro k o LN mZ;replace LN : W1.heap[k]? = some o:=LN;by_cases e : k = w.heap.size + 1
          · subst e;rw [Se] at LN;cases LN;exact World.putObj_heap_same Bi
          · rw [World.putObj_heap_other e];refine Ou k o ?_ mZ;rw [← LK,World.putObj_heap_other e];exact Sg k o (JZ k o LN mZ) mZ
    · rintro e W2 ⟨⟨v,rfl⟩,G2,h1,h2⟩;have KU : G2.w0 = W1:=h1.w0;have JZ : dS W1 W2:=(by have:=h2.others; rwa [KU] at this);have hl:=JZ _ _ Se (by intros; simp);have hk:=JZ _ _ tQ (by intros; simp);obtain ⟨q1,q2⟩:=vE.tW h1 h2;refine ⟨none,_,by have:=run_endLoop (P:=P) hl (by rw [qy]; simp); rw [qy] at this; exact this,rfl,w.heap.size,G2.setW G.w0,q2,Nat.le_refl _,(World.putObj_heap_other (by omega)).trans hk,rfl,?_⟩;rw [qy] at hl;exact q1.putObj hl (by intros; simp) (by intros; simp) (by show G.w0.heap.size≤_; omega) (by rw [show (G2.setW G.w0).B = G2.B from rfl,h1.B]; show G.B≤_; omega)
theorem pS {f : FuncId} {fn : Func} {c : Code} {args : List AV} {cO : AV→AS→Prop} {s : AS} (hf : P.funcs[f]? = some fn) (hb : fn.body = some c) (hn : args.length≤fn.ntmps)
    (h : ∀ G a w,G.df = []→Rel Γ fn.ntmps G (dE args) s a w→c.wpIn Fence.wide 0 P (fun e a' w'=>(e = .normal∨e = .ret)∧∃ D G' E' s',G.le G'∧(G.w0.heap.size≤D∧G.B≤D)∧w'.heap[D]? = some (.deferred (some [])) ∧
      a'.defers = [{ target:=.collected D,args:=#[] }]∧Rel Γ fn.ntmps (G'.ec a'.defers) E' s' a' w'∧bI P fn.results.toList cO E' s') a w) : ah P Γ f args s cO:=by
  intro G w vs hs hv;have Oy:=hv.length;refine (callsIn_wide (n:=0)).1 (callsIn_of_wp_marks hf hb trivial ?_);have C8 : Rel Γ fn.ntmps (G.ec []) (dE args) s { tmps:=vs.toArray ++ Array.replicate (fn.ntmps - vs.toArray.size) undef,defers:=[] } w:=by
    refine ⟨hs.ec,by simp; omega,fun i=>?_,rfl⟩;simp only [dE];by_cases hi : i < args.length
    · obtain ⟨u,h1,h2⟩:=hv.getD i hi;have aO : i < vs.length:=(by omega);rw [Array.getD_eq_getD_getElem?,Array.getElem?_append_left (by simpa using aO)];simp only [List.getElem?_toArray,h1,Option.getD_some];exact ar.ec _ _ h2
    · have e1 : args.getD i (.v undef) = .v undef:=(by simp [List.getD,List.getElem?_eq_none (Nat.le_of_not_lt hi)]);rw [e1,Array.getD_eq_getD_getElem?,Array.getElem?_append_right (by simp; omega)];simp only [ar];cases hh : (Array.replicate (fn.ntmps - vs.toArray.size) undef)[i - vs.toArray.size]? with
      | none=>rfl
      | some u =>
        rw [Array.getElem?_replicate] at hh;split at hh
        · cases hh; rfl
        · cases hh
  refine wpIn_mono (h _ _ w rfl C8) ?_;rintro e a' w' ⟨he,D,G',E',s',h1,hD,hk,vN,h2,h3⟩;have Lq : G'.w0.heap.size≤D:=by
    rw [h1.w0];exact hD.1
  have hB : G'.B≤D:=by
    rw [h1.B];exact hD.2
  have fin : LeavesInM Fence.wide 0 P fn a'.tmps (fun e w'=>∃ G' r v s',e = .returned v∧G.le G'∧aU Γ G' s' w'∧ar G' r v∧cO r s') a'.defers .returning w':=by
    rw [vN];refine ⟨by simp,.inl ⟨D,_,rfl,run_takeDeferred hk,?_⟩⟩;have h4 : Rel Γ fn.ntmps (G'.ec a'.defers) E' s' a' (w'.putObj D (.deferred none)):=⟨h2.st.putObj hk (by intros; simp) (by intros; simp) Lq hB,h2.size,h2.tmps,h2.defers⟩;unfold bI at h3;split at h3
    · rename_i RV vB;obtain ⟨r,s2,q1,q2,q3⟩:=h3;obtain ⟨zs,r1,r2⟩:=vI h4 vB;refine ⟨if h : zs.toArray.size = 1 then zs.toArray[0] else .tuple zs.toArray,?_,G'.ec G.df,r,_,s2,rfl,Gh.Es h1,(h4.st.mono q2).ec (d:=G.df),ar.ec (G:=G'.ec a'.defers) (d:=G.df) _ _ (q1 _ _ (yW r2)),q3⟩;rw [pj,Array.mapM_eq_mapM_toList];simp only [Sem.run_bind,Sem.run_map,r1,Result.andThen_ok,Sem.run_pure]
    · exact h3.elim
  rcases he with rfl | rfl
  · exact fin
  · exact fin
theorem cI.wide {c : Code} {Q : Exit→Env→AS→Prop} {a : Act} (h : cI P Γ N c Q E s) (hr : Rel Γ N G E s a w) {R : Exit→Act→World→Prop}
    (hq : ∀ e G' E' s' a' w',G.le G'→Rel Γ N G' E' s' a' w'→Q e E' s'→R e a' w') : c.wpIn Fence.wide 0 P R a w :=
  wpIn_mono (F:=xf none) (n:=0) (h G a w hr) fun e a' w' ⟨G',E',s',h1,h2,h3,_⟩=>hq e G' E' s' a' w' h1 h2 h3
theorem cI.behind {c : Code} {Q : Exit→Env→AS→Prop} {a : Act} {G' : Gh} {D : Nat} {s' : AS} {w' : World} (hr : Rel Γ N G E s a w) (hle : G.le G') (hk : w'.heap[D]? = some (.deferred (some []))) (hs : aU Γ G' s' w') (vN : G.df = [])
    (h : cI P Γ N c Q E s') {R : Exit→Act→World→Prop}
    (hq : ∀ e yu iG im BZ yt,G.le yu→yt.heap[D]? = some (.deferred (some []))→BZ.defers = [{ target:=.collected D,args:=#[] }]→Rel Γ N (yu.ec BZ.defers) iG im BZ yt→Q e iG im→R e BZ yt) :
    c.wpIn Fence.wide 0 P R { a with defers:={ target:=.collected D,args:=#[] } :: a.defers } w':=by
  have ha : a.defers = []:=hr.defers.trans vN;have C8 : Rel Γ N ((G'.ec [{ target:=.collected D,args:=#[] }]).setW w') E s' { a with defers:={ target:=.collected D,args:=#[] } :: a.defers } w' :=
    ⟨(hs.ec).setW,hr.size,fun i=>ar.sub (Gh.ir _ _) _ _ (ar.ec _ _ (ar.mono hle _ _ (hr.tmps i))),by rw [ha]; rfl⟩
  refine h.wide C8 ?_;intro e G2 E2 s2 a2 w2 g1 g2 g3;have Ou : dS w' w2:=by
    have:=g2.st.others;rwa [show G2.w0 = w' from g1.w0] at this
  have GJ : a2.defers = [{ target:=.collected D,args:=#[] }]:=g2.defers.trans g1.df;have hb:=aU.tW (G:=G'.ec [{ target:=.collected D,args:=#[] }]) hs.ec g1 g2.st;refine hq e (((G2.setW G'.w0)).ec G'.df) E2 s2 a2 w2 ?_ (Ou _ _ hk (by intros; simp)) GJ ?_ g3
  · refine hle.trans ?_;exact ⟨hb.2.ro,hb.2.obj,hb.2.tok,hb.2.B,hb.2.w0,rfl⟩
  · refine ⟨?_,g2.size,fun i=>?_,rfl⟩
    · exact hb.1.ec (d:=a2.defers)
    · exact ar.sub (G:=G2) (G':=((G2.setW G'.w0).ec G'.df).ec a2.defers) ⟨rfl,rfl,rfl,rfl⟩ _ _ (g2.tmps i)
end Go.AM
namespace Go.AM
open Go Go.RowKit
variable {rd : Option Nat} {P : Program} {Γ : Nat→List AV} {G : Gh} {s : AS} {w : World}
theorem xQ {n : Nat} {T xT e : TypeId} (hT : P.underlying T = some (.slice e)) {k : IntKind} (hx : P.underlying xT = some (.int k)) {z : List AV} (he : sY P e z)
    (h0 : n≠0) (ei : n * P.bytesOf e≤2 ^ 46) (jo : n≤2 ^ 46) (ty : TypeId) :
    ∃ (cap : Nat) (us : List Value),n≤cap∧us.length = cap * P.cellsOf e ∧
      (Builtin.append_ #[T,xT] ty #[.slice none 0 0,.int .i64 n]).run P w = .ok (.slice (some ⟨w.heap.size,0,none⟩) n cap) (w.drew.alloc (.cells us.toArray e)):=by
  obtain ⟨hz,fY,yN⟩:=he;obtain ⟨zv,C0,G7⟩:=dt hz;obtain ⟨i,hi⟩:=ev fY;have hb : P.bytesOf e = i.bytes:=(by simp [Program.bytesOf,hi]);have yO : ∀ w',(typeInfo e).run P w' = .ok i w':=(fun w'=>by simp [typeInfo,hi]);have qn:=nextslicecap_le (need:=n) (old:=0) (by omega);have mc : ¬ (2 ^ 48 < Builtin.nextslicecap n 0 * i.bytes):=by
    rw [hb] at ei;have h2 : Builtin.nextslicecap n 0 * i.bytes≤2 * n * i.bytes:=Nat.mul_le_mul_right _ qn;rw [Nat.mul_assoc] at h2;omega
  have UZ : zv.cells.size = P.cellsOf e:=by
    rw [G7] at yN;simpa using yN
  have hw : IntKind.i64.wrap (n : Int) = n:=IntWalk.i64_in _ (by omega);have tZ : ¬ ((n : Int) < 0):=(by omega);have dz : ¬ (n * P.cellsOf e = 0):=by
    intro h;rcases Nat.mul_eq_zero.1 h with h | h
    · exact h0 h
    · exact fY h
  have Bb : ¬ ((281474976710656 : Int) < (n : Int) * (i.bytes : Int)):=by
    rw [hb] at ei;have : ((n * i.bytes : Nat) : Int)≤((2 ^ 46 : Nat) : Int):=Int.ofNat_le.2 ei;rw [Int.natCast_mul] at this;omega
  have l9 : ¬ (9223372036854775807 < (n : Int)):=(by omega);refine ⟨_,(Builtin.zeroCells zv.cells n ++ Builtin.zeroCells zv.cells ((Question.appendCap n 0 e).cut (w.tape w.drawn (.appendCap n 0 e)) - n)).toList,eZ n 0 e (w.tape w.drawn (.appendCap n 0 e)),?_,?_⟩
  · have:=eZ n 0 e (w.tape w.drawn (.appendCap n 0 e));simp only [Builtin.zeroCells,Array.toList_append,List.length_append,Array.length_toList,UZ];simp [UZ];rw [← Nat.add_mul];congr 1;omega
  · have hf : (Question.appendCap n 0 e).forced = false:=rfl;have IU : ¬ (n≤0):=(by omega);simp [Builtin.append_,run_underlying hT,aV fY,run_underlying hx,asInt,asIntOf,hw,tZ,yO,Bb,l9,mc,hf,C0,newRow,dz,h0,Builtin.firstCells];congr 2;apply Array.ext';simp
theorem Df {N : Nat} {E : Env} {Q : Exit→Env→AS→Prop} {id : Nat} (L1 L2 L3 : List Oper) {oa os : Oper} {T xT e ty : TypeId} {k : IntKind} {x y h : Operand} {d1 d2 : Tmp} {z : List AV}
    (hoa : oa.op = .call { callee:=.builtin .append,args:=#[x,y],argTypes:=#[T,xT] }) (hga : oa.guard = none) (U0 : oa.dst = some d1) (Fb : d1 < N)
    (Z5 : os.op = .slice ty (.tmp d1) none (some h) none) (hgs : os.guard = none) (Qw : os.dst = some d2) (GJ : d2 < N)
    (hT : P.underlying T = some (.slice e)) (Z6 : P.underlying ty = some (.slice e)) (hx : P.underlying xT = some (.int k)) (he : sY P e z) (yF : P.cellsOf e = 1)
    (hh : AY P Γ N (L1 ++ oa :: (L2 ++ os :: L3)).toArray L1 (fun E1 s1=>aN Γ E1 x = .v (.slice none 0 0)∧∃ n : Nat,aN Γ E1 y = .v (.int .i64 n)∧n≠0∧n * P.bytesOf e≤2 ^ 46∧n≤2 ^ 46 ∧
      ∀ t v,s1.own t = none→AY P Γ N (L1 ++ oa :: (L2 ++ os :: L3)).toArray L2 (fun E2 s2=>E2 d1 = .v v∧aN Γ E2 h = .v (.int .i64 0) ∧
        AY P Γ N (L1 ++ oa :: (L2 ++ os :: L3)).toArray L3 (fun E' s'=>Q .normal E' s') (aG E2 d2 (.sl 1 0 [] (.own t 0))) s2) (aG E1 d1 (.v v)) (s1.cd t 0)) E s) :
    cI P Γ N (.region id (L1 ++ oa :: (L2 ++ os :: L3)).toArray false) Q E s:=by
  generalize xa7 : (L1 ++ oa :: (L2 ++ os :: L3)).toArray = ops at hh ⊢;rw [ay] at hh;intro G a w hr;refine wpIn_region ?_;have bT : ∀ ops : Array Oper,(List.range ops.size).map (ops[·]?) = ops.toList.map some:=by
    intro ops;apply List.ext_getElem?;intro i;simp only [List.getElem?_map];by_cases hi : i < ops.size
    · simp [hi]
    · simp [hi]
  have kU:=bT ops;generalize hI : List.range ops.size = I at kU;have nf : ops.toList = L1 ++ oa :: (L2 ++ os :: L3):=(by rw [← xa7]);rw [nf] at kU;have LO : ∀ (I : List Nat) (A : List Oper) (o : Oper) (B : List Oper),I.map (ops[·]?) = (A ++ o :: B).map some→∃ I1 i I2,I = I1 ++ i :: I2∧I1.map (ops[·]?) = A.map some∧ops[i]? = some o∧I2.map (ops[·]?) = B.map some:=by
    intro I A o B hm;have h1 : (I.take A.length).map (ops[·]?) = A.map some:=(by rw [List.map_take,hm]; simp);have h2 : (I.drop A.length).map (ops[·]?) = (o :: B).map some:=(by rw [List.map_drop,hm]; simp);generalize U1 : I.drop A.length = J at h2;cases J with
    | nil=>simp at h2
    | cons i I2 =>
      simp only [List.map_cons,List.cons.injEq] at h2;exact ⟨I.take A.length,i,I2,by rw [← U1,List.take_append_drop],h1,h2.1,h2.2⟩
  obtain ⟨I1,i1,J,rfl,m1,mo1,mJ⟩:=LO I L1 oa (L2 ++ os :: L3) kU;obtain ⟨I2,i2,I3,rfl,m2,mo2,m3⟩:=LO J L2 os L3 mJ;refine dv L1 I1 (i1 :: (I2 ++ i2 :: I3)) m1 (dD _ hh) hr ?_;rintro G1 E1 s1 a1 w1 kV nF ⟨⟨hxe,n,hye,Ua,hnb,xa8,hk⟩,zp⟩;rw [wpOpsIn_cons];simp only [wpOpIn,mo1];rw [if_pos (du hga)];have kj:=nF.eval x;rw [hxe] at kj;have qo:=nF.eval y;rw [hye] at qo;simp only [ar] at kj qo;obtain ⟨cap,us,dA,ly,kQ⟩:=xQ (P:=P) (w:=w1) hT hx he Ua hnb xa8 oa.type;have Z7 : s1.own G1.nt = none:=nF.st.iD (Nat.le_refl _);obtain ⟨G2,g1,g2,g3,g4,g5,g6⟩:=nF.st.drew.qm [] us e G1.nt 0 (fun e' _=>nF.st.cG _ (Nat.le_refl _) e');simp only [List.nil_append,List.length_nil] at g2 g4;rw [ly,yF,Nat.mul_one] at g4;have hk:=hk G1.nt (.slice (some ⟨w1.heap.size,0,none⟩) n cap) Z7;have U2 : (execOp a1.eval oa).run P w1 = .ok (.value (.slice (some ⟨w1.heap.size,0,none⟩) n cap)) (w1.drew.alloc (.cells us.toArray e)):=by
    rw [dG hoa];simp [builtin,kj,qo,kQ]
  refine ⟨fun _ _=>trivial,?_⟩;rw [Oper.semAt_eq _ _ _ (RZ U2)];rw [U2];simp only [Oper.uponIn];have qz:=nF.put (dst:=oa.dst) g1 g2 (r:=.v (.slice (some ⟨w1.heap.size,0,none⟩) n cap)) (v:=.slice (some ⟨w1.heap.size,0,none⟩) n cap) (by simp [ar]) (by intro d hd; rw [U0] at hd; cases hd; exact Fb);rw [U0] at qz ⊢;simp only [bD] at qz;refine dv L2 I2 (i2 :: I3) m2 (dD _ hk) qz ?_;rintro G3 E3 s3 a3 w3 N6 sF ⟨⟨hd,hhe,GK⟩,Si⟩;rw [wpOpsIn_cons];simp only [wpOpIn,mo2];rw [if_pos (du hgs)];have hdr:=sF.tmps d1;rw [hd] at hdr;have hhr:=sF.eval h;rw [hhe] at hhr;simp only [ar] at hdr hhr;have hb:=dr (P:=P) (isSlice:=true) (len:=n) (cap:=cap) (l:=0) (h:=0) (lo:=none) (hi:=some (.int .i64 0)) (.inl ⟨rfl,rfl⟩) (.inr ⟨_,rfl⟩) (Int.le_refl 0) (Int.le_refl 0) (by omega) w3;have Bd : P.cellsOf e≠0:=he.2.1;have U3 : (Instr.sliceAt ty (.slice (some ⟨w1.heap.size,0,none⟩) n cap) none (some (.int .i64 0)) none).run P w3 = .ok (.slice (some ⟨w1.heap.size,0,none⟩) 0 cap) w3:=by
    rw [fZ Z6];simp [Instr.slice,run_underlying Z6,hb,aV Bd,Addr.add]
  have hex : (execOp a3.eval os).run P w3 = .ok (.value (.slice (some ⟨w1.heap.size,0,none⟩) 0 cap)) w3:=by
    obtain ⟨dst,op,type,pos,after,guard⟩:=os;simp only at Z5;subst Z5;have e1 : a3.eval (.tmp d1) = .slice (some ⟨w1.heap.size,0,none⟩) n cap:=hdr;simp [execOp,e1,hhr,U3]
  refine ⟨fun _ _=>trivial,?_⟩;rw [Oper.semAt_eq _ _ _ (RZ hex)];rw [hex];simp only [Oper.uponIn];have Ci:=sF.put (dst:=os.dst) (Gh.le.refl G3) sF.st (r:=.sl 1 0 [] (.own G1.nt 0)) (v:=.slice (some ⟨w1.heap.size,0,none⟩) 0 cap) (by
    simp only [ar];refine .inl ⟨w1.heap.size,0,cap,[],rfl,by simp,by omega,by simp [al],fun j u hj=>by simp at hj,?_⟩;simp only [eL,Nat.zero_mul,Nat.add_zero,Nat.zero_add,Nat.mul_one];have:=N6.tok _ _ _ g4;simpa using this) (by intro d Ht; rw [Qw] at Ht; cases Ht; exact GJ)
  rw [Qw] at Ci ⊢;simp only [bD] at Ci;refine kA L3 I3 m3 (dD _ GK) Ci ?_;rintro G5 E5 s5 a5 w5 hG5 KV ⟨hk5,Sj⟩;refine ⟨G5,E5,s5,kV.trans (g1.trans (N6.trans hG5)),KV,hk5,?_⟩;intro i hi;have mem : ∀ L : List Oper,i ∈ bP L↔∃ o ∈ L,o.dst = some i:=(fun L=>by simp [bP,List.mem_filterMap]);simp only [writes] at hi;rw [nf] at hi;have aO : ¬ ∃ o' ∈ L1 ++ oa :: (L2 ++ os :: L3),o'.dst = some i:=fun hm=>hi ((mem _).2 hm);have q1 : i ∉ bP L1:=fun hm=>aO (by obtain ⟨o,k1,k2⟩:=(mem _).1 hm; exact ⟨o,by simp [k1],k2⟩);have q2 : i ∉ bP L2:=fun hm=>aO (by obtain ⟨o,k1,k2⟩:=(mem _).1 hm; exact ⟨o,by simp [k1],k2⟩);have q3 : i ∉ bP L3:=fun hm=>aO (by obtain ⟨o,k1,k2⟩:=(mem _).1 hm; exact ⟨o,by simp [k1],k2⟩);have q4 : i≠d1:=fun e=>aO ⟨oa,by simp,by rw [e]; exact U0⟩;have q5 : i≠d2:=fun e=>aO ⟨os,by simp,by rw [e]; exact Qw⟩;rw [Sj i q3,eG _ _ q5,Si i q2,eG _ _ q4,zp i q1]
theorem zt {N : Nat} {E : Env} {Q : Exit→Env→AS→Prop} {id : Nat} {o1 o2 o3 o4 o5 oa o7 o8 os Sk : Oper} {T xT e ty : TypeId} {k : IntKind} {x y h : Operand} {d1 d2 : Tmp} {z : List AV}
    (hoa : oa.op = .call { callee:=.builtin .append,args:=#[x,y],argTypes:=#[T,xT] }) (hga : oa.guard = none) (U0 : oa.dst = some d1) (Fb : d1 < N)
    (Z5 : os.op = .slice ty (.tmp d1) none (some h) none) (hgs : os.guard = none) (Qw : os.dst = some d2) (GJ : d2 < N)
    (hT : P.underlying T = some (.slice e)) (Z6 : P.underlying ty = some (.slice e)) (hx : P.underlying xT = some (.int k)) (he : sY P e z) (yF : P.cellsOf e = 1)
    (hh : ∀ ops : Array Oper,AY P Γ N ops [o1,o2,o3,o4,o5] (fun E1 s1=>aN Γ E1 x = .v (.slice none 0 0)∧∃ n : Nat,aN Γ E1 y = .v (.int .i64 n)∧n≠0∧n * P.bytesOf e≤2 ^ 46∧n≤2 ^ 46 ∧
      ∀ t v,s1.own t = none→AY P Γ N ops [o7,o8] (fun E2 s2=>E2 d1 = .v v∧aN Γ E2 h = .v (.int .i64 0) ∧
        AY P Γ N ops [Sk] (fun E' s'=>Q .normal E' s') (aG E2 d2 (.sl 1 0 [] (.own t 0))) s2) (aG E1 d1 (.v v)) (s1.cd t 0)) E s) :
    cI P Γ N (.region id #[o1,o2,o3,o4,o5,oa,o7,o8,os,Sk] false) Q E s :=
  Df [o1,o2,o3,o4,o5] [o7,o8] [Sk] hoa hga U0 Fb Z5 hgs Qw GJ hT Z6 hx he yF (hh _)
def kW (s : AS) (l : List UInt8) (r : AV) (s' : AS) : Prop :=
  s.le s'∧((l = []∧r = .v (.slice none 0 0))∨∃ t e,s.own t = none∧s'.own t = some e∧r = .sl 1 l.length (l.map aw) (.own t e))
theorem kW.nil (s : AS) : kW s [] (.v (.slice none 0 0)) s:=⟨AS.le.refl s,.inl ⟨rfl,rfl⟩⟩
theorem kW.aL {s s' : AS} {l : List UInt8} {r : AV} (h : kW s l r s') : r.aL (ak l .any):=by
  rcases h.2 with ⟨rfl,rfl⟩ | ⟨t,e,_,_,rfl⟩
  · exact AV.aP
  · exact AV.db
theorem Bj (l : List UInt8) : (l.map aw).all AV.one = true:=by
  rw [List.all_eq_true];intro x hx;obtain ⟨n,_,rfl⟩:=List.mem_map.1 hx;rfl
theorem eT {e : TypeId} {K : AV→AS→Prop} {s s1 : AS} {l ds : List UInt8} {r : AV} {m : Nat} {cs : List AV} (h : kW s l r s1) (hm : m = ds.length) (Bd : cs = ds.map aw) (he : P.cellsOf e = 1) (hb : P.bytesOf e = 1) (hlen : l.length + ds.length≤2 ^ 45)
    (hk : ∀ r2 s2,kW s (l ++ ds) r2 s2→K r2 s2) : gT P e r m cs s1 K:=by
  subst hm Bd;rcases h.2 with ⟨rfl,rfl⟩ | ⟨t,g,h1,h2,rfl⟩
  · rw [qv];split
    · rename_i h0;have : ds = []:=List.eq_nil_of_length_eq_zero h0;subst this;exact hk _ _ h
    · rename_i h0;rw [he,hb];simp only [List.length_nil,Nat.zero_add] at hlen;refine ⟨by omega,by omega,fun t ht=>hk _ _ ?_⟩;refine ⟨AS.bC h.1 ?_ 0,.inr ⟨t,0,?_,AS.km _ _ _,by simp⟩⟩;all_goals
        cases hs : s.own t with
        | none=>rfl
        | some g=>rw [h.1.own t g hs] at ht; cases ht
  · rw [qw];split
    · rename_i h0;have : ds = []:=List.eq_nil_of_length_eq_zero h0;subst this;exact hk _ _ (by simpa using h)
    · rename_i h0;rw [he,hb];refine ⟨rfl,by omega,by omega,Bj ds,h2,hk _ _ ?_⟩;exact ⟨AS.bC h.1 h1 _,.inr ⟨t,g + 1,h1,AS.km _ _ _,by simp⟩⟩
end Go.AM
namespace Go.AM
open Go Go.RowKit
variable {P : Program} {Γ : Nat→List AV} {G : Gh} {s : AS} {w : World} {N : Nat} {E : Env}
theorem Dg {ρ : Operand→Value} {o : Oper} {f x : Operand} {ts : Array TypeId} {l : Nat} (ho : o.op = .call { callee:=.value f,args:=#[x],argTypes:=ts }) (hf : ρ f = .func (.yield l) #[] #[]) :
    (execOp ρ o).run P w = (Instr.yield l #[ρ x]).run P w:=by
  obtain ⟨dst,op,type,pos,after,guard⟩:=o;simp only at ho;subst ho;simp [execOp,resolve,hf,Deferred.ofValue,invoke]
theorem Ck (ops : Array Oper) : (List.range ops.size).map (ops[·]?) = ops.toList.map some:=by
  apply List.ext_getElem?;intro i;simp only [List.getElem?_map];by_cases hi : i < ops.size
  · simp [hi]
  · simp [hi]
theorem Cl {ops : Array Oper} {I : List Nat} {A B : List Oper} {o : Oper} (hm : I.map (ops[·]?) = (A ++ o :: B).map some) : ∃ I1 i I2,I = I1 ++ i :: I2∧I1.map (ops[·]?) = A.map some∧ops[i]? = some o∧I2.map (ops[·]?) = B.map some:=by
  have h1 : (I.take A.length).map (ops[·]?) = A.map some:=(by rw [List.map_take,hm]; simp);have h2 : (I.drop A.length).map (ops[·]?) = (o :: B).map some:=(by rw [List.map_drop,hm]; simp);generalize U1 : I.drop A.length = J at h2;cases J with
  | nil=>simp at h2
  | cons i I2 =>
    simp only [List.map_cons,List.cons.injEq] at h2;exact ⟨I.take A.length,i,I2,by rw [← U1,List.take_append_drop],h1,h2.1,h2.2⟩
theorem zu {l id : Nat} (L1 L2 : List Oper) {o : Oper} {f x : Operand} {ts : Array TypeId} {a : Act} {Q : Exit→Act→World→Prop} {K1 : Env→AS→Prop} {K2 : Env→AS→Prop}
    (ho : o.op = .call { callee:=.value f,args:=#[x],argTypes:=ts }) (hg : o.guard = none) (hd : ∀ d,o.dst = some d→d < N)
    (h1 : AY P Γ N (L1 ++ o :: L2).toArray L1 (fun E1 s1=>aN Γ E1 f = .v (.func (.yield l) #[] #[])∧K1 E1 s1) E s) (hr : Rel Γ N G E s a w)
    (hy : ∀ G1 E1 s1 a1 w1,G.le G1→Rel Γ N G1 E1 s1 a1 w1→K1 E1 s1→YieldAt Fence.wide 0 P l #[a1.eval x] w1 fun e W'=>e = .returned (.bool true)∧∃ G2 s2,G1.le G2∧aU Γ G2 s2 W' ∧
      AY P Γ N (L1 ++ o :: L2).toArray L2 K2 (bD E1 o.dst (.v (.bool true))) s2)
    (hq : ∀ G' E' s' a' w',G.le G'→Rel Γ N G' E' s' a' w'→K2 E' s'→Q .normal a' w') : (Code.region id (L1 ++ o :: L2).toArray false).wpIn Fence.wide 0 P Q a w:=by
  rw [ay] at h1;refine wpIn_region ?_;have kU:=Ck (L1 ++ o :: L2).toArray;generalize List.range (L1 ++ o :: L2).toArray.size = I at kU ⊢;obtain ⟨I1,i,I2,rfl,m1,mo,m2⟩:=Cl (A:=L1) (B:=L2) (o:=o) kU;refine ja (l:=none) L1 I1 (i :: I2) m1 h1 hr ?_;rintro G1 E1 s1 a1 w1 kV nF ⟨hf,oB⟩;have A7:=nF.eval f;rw [hf] at A7;simp only [ar] at A7;obtain ⟨fn,tmps,assign,body,q1,q2⟩:=hy G1 E1 s1 a1 w1 kV nF oB;simp only [wpOpsIn,mo];rw [if_pos (du hg)];refine ⟨fun _ _=>trivial,?_⟩;rw [Oper.semAt_eq _ _ _ (by intro c; rw [ho]; simp),Dg ho A7,q1];rw [Oper.uponIn_round];refine ⟨fun e=>(by cases e),RoundIn.mono (F:=Fence.wide) q2 ?_⟩;rintro e W' ⟨rfl,G2,s2,g1,g2,g3⟩;rw [ay] at g3;have qz : Rel Γ N G2 E1 s2 a1 W':=⟨g2,nF.size,fun i=>ar.mono g1 _ _ (nF.tmps i),nF.defers.trans g1.df.symm⟩;have sF:=qz.put (dst:=o.dst) (Gh.le.refl G2) g2 (r:=.v (.bool true)) (v:=.bool true) (by simp [ar]) hd;exact pt (l:=none) L2 I2 m2 g3 sF fun G3 E3 s3 a3 w3 h3 sF hk=>hq G3 E3 s3 a3 w3 (kV.trans (g1.trans h3)) sF hk
theorem vP {l id : Nat} {o1 o2 o3 o4 o5 o6 o7 o8 o9 Sk o o12 : Oper} {f x : Operand} {ts : Array TypeId} {a : Act} {Q : Exit→Act→World→Prop} (K1 K2 : Env→AS→Prop)
    (ho : o.op = .call { callee:=.value f,args:=#[x],argTypes:=ts }) (hg : o.guard = none) (hd : ∀ d,o.dst = some d→d < N)
    (h1 : ∀ ops,AY P Γ N ops [o1,o2,o3,o4,o5,o6,o7,o8,o9,Sk] (fun E1 s1=>aN Γ E1 f = .v (.func (.yield l) #[] #[])∧K1 E1 s1) E s) (hr : Rel Γ N G E s a w)
    (hy : ∀ ops G1 E1 s1 a1 w1,G.le G1→Rel Γ N G1 E1 s1 a1 w1→K1 E1 s1→YieldAt Fence.wide 0 P l #[a1.eval x] w1 fun e W'=>e = .returned (.bool true)∧∃ G2 s2,G1.le G2∧aU Γ G2 s2 W' ∧
      AY P Γ N ops [o12] K2 (bD E1 o.dst (.v (.bool true))) s2)
    (hq : ∀ G' E' s' a' w',G.le G'→Rel Γ N G' E' s' a' w'→K2 E' s'→Q .normal a' w') : (Code.region id #[o1,o2,o3,o4,o5,o6,o7,o8,o9,Sk,o,o12] false).wpIn Fence.wide 0 P Q a w :=
  zu (K1:=K1) (K2:=K2) [o1,o2,o3,o4,o5,o6,o7,o8,o9,Sk] [o12] ho hg hd (h1 _) hr (hy _) hq
theorem Rel.entry {args : List AV} {vs : List Value} (hs : aU Γ G s w) (hv : al G args vs) (hn : args.length≤N) (vN : G.df = []) :
    Rel Γ N G (dE args) s { tmps:=vs.toArray ++ Array.replicate (N - vs.toArray.size) undef,defers:=[] } w:=by
  have Oy:=hv.length;refine ⟨hs,by simp; omega,fun i=>?_,vN.symm⟩;simp only [dE];by_cases hi : i < args.length
  · obtain ⟨u,h1,h2⟩:=hv.getD i hi;have aO : i < vs.length:=(by omega);rw [Array.getD_eq_getD_getElem?,Array.getElem?_append_left (by simpa using aO)];simp only [List.getElem?_toArray,h1,Option.getD_some];exact h2
  · have e1 : args.getD i (.v undef) = .v undef:=(by simp [List.getD,List.getElem?_eq_none (Nat.le_of_not_lt hi)]);rw [e1,Array.getD_eq_getD_getElem?,Array.getElem?_append_right (by simp; omega)];simp only [ar];cases hh : (Array.replicate (N - vs.toArray.size) undef)[i - vs.toArray.size]? with
    | none=>rfl
    | some u =>
      rw [Array.getElem?_replicate] at hh;split at hh
      · cases hh; rfl
      · cases hh
end Go.AM
namespace Go.AM
open Go Go.RowKit
variable {P : Program} {Γ : Nat→List AV} {N : Nat}
theorem fw.trans {E E' iG : Env} {s s' im : AS} (h : fw Γ N E s E' s') (k : fw Γ N E' s' iG im) : fw Γ N E s iG im:=by
  intro G a w hr;obtain ⟨G1,h1,h2⟩:=h G a w hr;obtain ⟨G2,k1,k2⟩:=k G1 a w h2;exact ⟨G2,h1.trans k1,k2⟩
theorem bY {E : Env} {s : AS} {Q : Exit→Env→AS→Prop} (d1 d2 : Nat) {id : Nat} {L : List Oper} {y : Code} (Fb : d1 ∈ bP L) (GJ : d2 ∈ bP L) (dz : d1≠d2)
    (h : ∀ K : Env→AS→Prop,(∀ E s o1 o2 GL GF,E d1 = .ptr o1 0→E d2 = .ptr o2 0→s.aJ o1 = none→(s.set o1 GL).aJ o2 = none→cI P Γ N y Q (aG (aG E d2 (.cX GF)) d1 (.cX GL)) s→K E ((s.set o1 GL).set o2 GF))→AY P Γ N L.toArray L K E s) :
    cI P Γ N (.seq (.region id L.toArray false) y) Q E s:=by
  refine kk (jz ?_);have:=h (fun E' s'=>∃ iG im,fw Γ N E' s' iG im∧(∀ i,i ∉ bP L→iG i = E' i)∧av (cI P Γ N y Q) Q .normal iG im) ?_
  · rw [ay] at this;simpa using this
  · intro E' s' o1 o2 GL GF h1 h2 h3 h4 h5;refine ⟨aG (aG E' d2 (.cX GF)) d1 (.cX GL),s',?_,?_,h5⟩
    · have g1:=fw.lQ (Γ:=Γ) (N:=N) (E:=E') (s:=(s'.set o1 GL).set o2 GF) (d:=d2) h2 (AS.aj _ _ _);rw [AS.drop_set h4] at g1;have g2:=fw.lQ (Γ:=Γ) (N:=N) (E:=aG E' d2 (.cX GF)) (s:=s'.set o1 GL) (d:=d1) (by rw [eG _ _ dz]; exact h1) (AS.aj _ _ _);rw [AS.drop_set h3] at g2;exact g1.trans g2
    · intro i hi;rw [eG _ _ (fun e=>hi (by rw [e]; exact Fb)),eG _ _ (fun e=>hi (by rw [e]; exact GJ))]
theorem AS.LP {s : AS} {o : Nat} {cs : List AV} (h : s.aJ o = some cs) : s.set o cs = s:=by
  cases s with
  | mk aJ own =>
    simp only [AS.set,AS.mk.injEq,and_true];funext i;simp only [aG];split
    · rename_i e; subst e; exact h.symm
    · rfl
end Go.AM
namespace Go.AM
open Go Go.RowKit
variable {P : Program} {Γ : Nat→List AV} {G : Gh} {s : AS} {w : World}
theorem Dh {ρ : Operand→AV} {ρ' : Operand→Value} {o : Oper} {src dst e : TypeId} {x : Operand} {l : List UInt8} (ho : o.op = .convert src dst x) (GD : P.underlying src = some .string) (Ev : P.underlying dst = some (.slice e)) (he : P.underlying e = some (.int .u8))
    (hx : ρ x = .v (.string ⟨l.toArray⟩)) (hρ : ∀ x,ar G (ρ x) (ρ' x)) (hs : aU Γ G s w) :
    cJ P Γ G (fun r s'=>kW s l r s') ((execOp ρ' o).run P w):=by
  have kj:=hρ x;rw [hx] at kj;simp only [ar] at kj;obtain ⟨cap,hle,kQ⟩:=nz (P:=P) e (⟨l.toArray⟩ : ByteArray) w;have fY : (⟨l.toArray⟩ : ByteArray).size = l.length:=rfl;have Hc : (⟨l.toArray⟩ : ByteArray).data.toList = l:=rfl;rw [fY] at hle kQ;rw [Hc] at kQ;have Z7 : s.own G.nt = none:=hs.iD (Nat.le_refl _);obtain ⟨G',h1,h2,h3,h4⟩:=hs.stringToBytes e l (cap - l.length) cap (by omega) G.nt 0 (fun e' _=>hs.cG _ (Nat.le_refl _) e');have hr : (convert src dst (ρ' x)).run P w = .ok (.slice (some ⟨w.heap.size,0,none⟩) l.length cap) ((w.drew.alloc (.cells (eh l ++ ic (cap - l.length)).toArray e)).freeze ⟨w.heap.size,cap,none⟩ 1):=by
    rw [kj,← kQ];simp [convert,run_underlying GD,run_underlying Ev,run_underlying he]
  refine (show execOp ρ' o = (do pure (.value (← convert src dst (ρ' x)))) by
    obtain ⟨d,op,type,pos,after,guard⟩:=o;simp only at ho;subst ho;rfl) ▸ ew ⟨G',_,_,.sl 1 l.length (l.map aw) (.own G.nt 0),s.cd G.nt 0,hr,h1,h2,?_,AS.bC (AS.le.refl s) Z7 0,.inr ⟨G.nt,0,Z7,AS.km _ _ _,rfl⟩⟩
  simp only [ar];exact .inl ⟨w.heap.size,0,cap,eh l,rfl,by simp,hle,nw _,h3,by simpa [eL] using h4⟩
theorem Di {N : Nat} {E : Env} {Q : Exit→Env→AS→Prop} {id : Nat} {L2 : List Oper} {o1 o : Oper} {code : Code} (hg : o.guard = none) (hd : ∀ d,o.dst = some d→d < N)
    (h : ∀ ops,AY P Γ N ops [o1] (fun E1 s1=>∃ K1 : AV→AS→Prop,(∀ G a w,Rel Γ N G E1 s1 a w→cJ P Γ G K1 ((execOp a.eval o).run P w)) ∧
      ∀ r s2,K1 r s2→AY P Γ N ops L2 (fun E' s'=>cI P Γ N code Q E' s') (bD E1 o.dst r) s2) E s) :
    cI P Γ N (.seq (.region id (o1 :: o :: L2).toArray false) code) Q E s :=
  qx [o1] L2 hg hd (h _)
end Go.AM
namespace Go.AM
open Go Go.RowKit
end Go.AM
namespace Go.AM
open Go Go.RowKit
variable {rd : Option Nat} {P : Program} {Γ : Nat→List AV} {N : Nat}
def GWp (P : Program) (Γ : Nat→List AV) (N : Nat) (c : Code) (Q : Exit→Env→AS→Prop) (E : Env) (s : AS) : Prop :=
  ∀ (G : Gh) (a : Act) (w : World),Rel Γ N G E s a w→∀ {rd : Option Nat},c.wpIn (xf rd) 0 P (fun e a' w'=>∃ G' E' s',G.le G'∧Rel Γ N G' E' s' a' w'∧Q e E' s') a w
section
variable {E : Env} {s : AS} {Q : Exit→Env→AS→Prop}
end
end Go.AM
namespace Go.AM
open Go Go.RowKit Go.ChangeShapes
variable {H : Type} {enc : TypeId × Value→H} {P : Program}
theorem Dj {w : World} {base : Nat} {spare : Nat→Bool} {held : Bool} {fuel : Nat} {t e : TypeId} {d : DataW H} {p : List MemPlace} {v : Value} {ts : List TypeId} {ds : List (DataW H)} {j : Nat} (hu : P.underlying t = some (.slice e))
    (hz : (DataW.weightsEach P ts ds).all (·≤reachBytes) = true) (ht : ts[j]? = some t) (hd : ds[j]? = some d) (h : DataW.trod enc P w base spare held fuel t v.cells.toList = some (d,p)) (hb : 1≤P.bytesOf e) :
    ∀ a l c,v = .slice a l c→l≤reachBytes:=by
  rintro a l c rfl;simp only [Value.cells] at h;rcases DataW.trod_slice hu h with ⟨h1,_⟩ | ⟨a',len,cap,elems,rest,n,_,h1,h2,_,_,_,hlen,_⟩
  · simp only [List.cons.injEq,Value.slice.injEq,and_true] at h1;omega
  · simp only [List.cons.injEq,Value.slice.injEq,and_true] at h1;simp only [Prod.mk.injEq] at h2;obtain ⟨rfl,_⟩:=h2;have:=sized_slice hz ht hd hu;simp only [List.length_map] at this;have h3 : (elems.length + rest.length) * 1≤(elems.length + rest.length) * P.bytesOf e:=Nat.mul_le_mul_left _ hb;omega
end Go.AM
namespace Go.AM
open Go Go.RowKit
variable {P : Program} {Γ : Nat→List AV} {G : Gh} {s : AS} {w : World}
end Go.AM
namespace Go.AM
open Go Go.RowKit Go.ChangeShapes
variable {H : Type} {enc : TypeId × Value→H} {P : Program}
theorem ey {w : World} {base : Nat} {spare : Nat→Bool} {held : Bool} {fuel : Nat} {t e : TypeId} {d : DataW H} {p : List MemPlace} {cs : List Value} {ts : List TypeId} {ds : List (DataW H)} {j : Nat} {fs : Array Field} (hu : P.underlying t = some (.struct fs))
    (hz : (DataW.weightsEach P ts ds).all (·≤reachBytes) = true) (ht : ts[j]? = some t) (hd : ds[j]? = some d) (h : DataW.trod enc P w base spare held fuel t cs = some (d,p)) (i : Nat) {f : Field} (hf : fs[i]? = some f)
    (he : P.underlying f.type = some (.slice e)) (hb : 1≤P.bytesOf e) (hc : P.cellsOf f.type = 1) : ∀ a l c,cs[f.offset]? = some (.slice a l c)→l≤reachBytes:=by
  intro a l c Bd;obtain ⟨xs,n,_,hx,hl,JT,bT⟩:=DataW.trod_struct hu h;simp only [Prod.mk.injEq] at hx;obtain ⟨rfl,_⟩:=hx;have h1:=bT i f hf;have hi : i < fs.size:=(Array.getElem?_eq_some_iff.1 hf).1;rw [hc,show (cs.drop f.offset).take 1 = [.slice a l c] from by
    obtain ⟨k1,k2⟩:=List.getElem?_eq_some_iff.1 Bd;rw [List.drop_eq_getElem_cons k1,k2]; rfl,List.getElem?_eq_getElem (by omega)] at h1
  have hw : (DataW.weightsEach P (fs.toList.map (·.type)) (xs.map (·.1))).all (·≤reachBytes) = true:=by
    rw [List.all_eq_true];intro m hm;exact List.all_eq_true.1 hz m (DataW.weights_mem_each ht hd m (by simp only [DataW.weights,hu]; exact hm))
  refine Dj (v:=.slice a l c) (j:=i) (d:=(xs[i]'(by omega)).1) (p:=(xs[i]'(by omega)).2) he hw (by simp [List.getElem?_map,hf]) (by simp [List.getElem?_map,List.getElem?_eq_getElem (show i < xs.length by omega)]) (fuel:=n) (by simpa [Value.cells] using h1) hb a l c rfl
end Go.AM
namespace Go.AM
open Go Go.RowKit
theorem DF : type_of% (And.intro (And.intro (And.intro (And.intro (And.intro (And.intro @dg.eq_1 (And.intro @dg.eq_2 @dg.eq_3)) (And.intro @dg.eq_4 (And.intro @dg.eq_5 @dg.eq_6))) (And.intro
    (And.intro @dg.eq_7 (And.intro @dg.eq_8 @dg.eq_9)) (And.intro @dg.eq_10 (And.intro @dg.eq_11 @dg.eq_12)))) (And.intro (And.intro (And.intro @dg.eq_13 (And.intro
    @dg.eq_14 @dg.eq_15)) (And.intro @dg.eq_16 (And.intro @dg.eq_17 @dg.eq_18))) (And.intro (And.intro @dg.eq_19 (And.intro @kP.eq_1 @kP.eq_2)) (And.intro
    (And.intro @kP.eq_3 @kP.eq_4) (And.intro @kP.eq_5 @kP.eq_6))))) (And.intro (And.intro (And.intro (And.intro @kP.eq_7 (And.intro @kP.eq_8 @kP.eq_9)) (And.intro
    @kP.eq_10 (And.intro @kP.eq_11 @gD.eq_1))) (And.intro (And.intro @gD.eq_2 (And.intro @gD.eq_3 @gD.eq_4)) (And.intro (And.intro @gD.eq_5 @gD.eq_6) (And.intro
    @gD.eq_7 @gD.eq_8)))) (And.intro (And.intro (And.intro @gD.eq_9 (And.intro @gD.eq_10 @gD.eq_11)) (And.intro @gD.eq_12 (And.intro @gD.eq_13 @gD.eq_14)))
    (And.intro (And.intro @gD.eq_15 (And.intro @gD.eq_16 @wY.eq_1)) (And.intro (And.intro @wY.eq_2 @wY.eq_3) (And.intro @yH.eq_1 @yH.eq_2)))))) (And.intro
    (And.intro (And.intro (And.intro (And.intro @yH.eq_3 (And.intro @yH.eq_4 @sV.eq_1)) (And.intro @sV.eq_2 (And.intro @sV.eq_3 @GX.eq_1))) (And.intro (And.intro
    @GX.eq_2 (And.intro @GX.eq_3 @GX.eq_4)) (And.intro @GX.eq_5 (And.intro @GX.eq_6 @eN.eq_1)))) (And.intro (And.intro (And.intro @eN.eq_2 (And.intro @eN.eq_3
    @iE.eq_1)) (And.intro @iE.eq_2 (And.intro @iE.eq_3 @iE.eq_4))) (And.intro (And.intro @iE.eq_5 (And.intro @iU.eq_1 @iU.eq_2)) (And.intro (And.intro @placeOf.eq_1
    @bm.eq_1) (And.intro @bm.eq_2 @undef.eq_1))))) (And.intro (And.intro (And.intro (And.intro @pO.eq_1 (And.intro @apart.eq_1 @aN.eq_1)) (And.intro @aN.eq_2
    (And.intro @aN.eq_3 @aN.eq_4))) (And.intro (And.intro @bD.eq_1 (And.intro @bD.eq_2 @aG.eq_1)) (And.intro (And.intro @dE.eq_1 @rS.eq_1) (And.intro @av.eq_1
    @av.eq_2)))) (And.intro (And.intro (And.intro @aq.eq_1 (And.intro @aq.eq_2 @nB.eq_1)) (And.intro @ak.eq_1 (And.intro @Array.isEmpty.eq_1.{0}
    @List.isEmpty.eq_1.{0}))) (And.intro (And.intro @List.isEmpty.eq_2.{0} (And.intro @implies_true.{0} @implies_true.{1})) (And.intro (And.intro @forall_eq'.{1} @ne_eq.{1})
    (And.intro @if_true.{1} @if_false.{1}))))))) :=
  (And.intro (And.intro (And.intro (And.intro (And.intro (And.intro @dg.eq_1 (And.intro @dg.eq_2 @dg.eq_3)) (And.intro @dg.eq_4 (And.intro @dg.eq_5 @dg.eq_6))) (And.intro
    (And.intro @dg.eq_7 (And.intro @dg.eq_8 @dg.eq_9)) (And.intro @dg.eq_10 (And.intro @dg.eq_11 @dg.eq_12)))) (And.intro (And.intro (And.intro @dg.eq_13 (And.intro
    @dg.eq_14 @dg.eq_15)) (And.intro @dg.eq_16 (And.intro @dg.eq_17 @dg.eq_18))) (And.intro (And.intro @dg.eq_19 (And.intro @kP.eq_1 @kP.eq_2)) (And.intro
    (And.intro @kP.eq_3 @kP.eq_4) (And.intro @kP.eq_5 @kP.eq_6))))) (And.intro (And.intro (And.intro (And.intro @kP.eq_7 (And.intro @kP.eq_8 @kP.eq_9)) (And.intro
    @kP.eq_10 (And.intro @kP.eq_11 @gD.eq_1))) (And.intro (And.intro @gD.eq_2 (And.intro @gD.eq_3 @gD.eq_4)) (And.intro (And.intro @gD.eq_5 @gD.eq_6) (And.intro
    @gD.eq_7 @gD.eq_8)))) (And.intro (And.intro (And.intro @gD.eq_9 (And.intro @gD.eq_10 @gD.eq_11)) (And.intro @gD.eq_12 (And.intro @gD.eq_13 @gD.eq_14)))
    (And.intro (And.intro @gD.eq_15 (And.intro @gD.eq_16 @wY.eq_1)) (And.intro (And.intro @wY.eq_2 @wY.eq_3) (And.intro @yH.eq_1 @yH.eq_2)))))) (And.intro
    (And.intro (And.intro (And.intro (And.intro @yH.eq_3 (And.intro @yH.eq_4 @sV.eq_1)) (And.intro @sV.eq_2 (And.intro @sV.eq_3 @GX.eq_1))) (And.intro (And.intro
    @GX.eq_2 (And.intro @GX.eq_3 @GX.eq_4)) (And.intro @GX.eq_5 (And.intro @GX.eq_6 @eN.eq_1)))) (And.intro (And.intro (And.intro @eN.eq_2 (And.intro @eN.eq_3
    @iE.eq_1)) (And.intro @iE.eq_2 (And.intro @iE.eq_3 @iE.eq_4))) (And.intro (And.intro @iE.eq_5 (And.intro @iU.eq_1 @iU.eq_2)) (And.intro (And.intro @placeOf.eq_1
    @bm.eq_1) (And.intro @bm.eq_2 @undef.eq_1))))) (And.intro (And.intro (And.intro (And.intro @pO.eq_1 (And.intro @apart.eq_1 @aN.eq_1)) (And.intro @aN.eq_2
    (And.intro @aN.eq_3 @aN.eq_4))) (And.intro (And.intro @bD.eq_1 (And.intro @bD.eq_2 @aG.eq_1)) (And.intro (And.intro @dE.eq_1 @rS.eq_1) (And.intro @av.eq_1
    @av.eq_2)))) (And.intro (And.intro (And.intro @aq.eq_1 (And.intro @aq.eq_2 @nB.eq_1)) (And.intro @ak.eq_1 (And.intro @Array.isEmpty.eq_1.{0}
    @List.isEmpty.eq_1.{0}))) (And.intro (And.intro @List.isEmpty.eq_2.{0} (And.intro @implies_true.{0} @implies_true.{1})) (And.intro (And.intro @forall_eq'.{1} @ne_eq.{1})
    (And.intro @if_true.{1} @if_false.{1})))))))
theorem DB : type_of% (And.intro (And.intro (And.intro @Bool.not_true @Bool.not_false) (And.intro @Bool.false_eq_true @Bool.true_eq_false)) (And.intro (And.intro @false_imp_iff @true_imp_iff) (And.intro @decide_eq_true_eq @decide_eq_false_iff_not))) :=
  (And.intro (And.intro (And.intro @Bool.not_true @Bool.not_false) (And.intro @Bool.false_eq_true @Bool.true_eq_false)) (And.intro (And.intro @false_imp_iff @true_imp_iff) (And.intro @decide_eq_true_eq @decide_eq_false_iff_not)))
theorem DX : type_of% (And.intro (And.intro @List.contains_cons.{0} (And.intro @List.contains_nil.{0} @Bool.or_false)) (And.intro (And.intro @Bool.or_true @Bool.or_self) (And.intro @Bool.false_eq_true @Bool.false_or))) :=
  (And.intro (And.intro @List.contains_cons.{0} (And.intro @List.contains_nil.{0} @Bool.or_false)) (And.intro (And.intro @Bool.or_true @Bool.or_self) (And.intro @Bool.false_eq_true @Bool.false_or)))
theorem DT : type_of% (And.intro (And.intro @ze (And.intro @zg @zh)) (And.intro @uu (And.intro @xq @xr))) :=
  (And.intro (And.intro @ze (And.intro @zg @zh)) (And.intro @uu (And.intro @xq @xr)))
end Go.AM
namespace Go.AM
open Go Go.RowKit
variable {rd : Option Nat} {P : Program} {Γ : Nat→List AV} {G : Gh} {s : AS} {w : World} {N : Nat} {ops : Array Oper}
inductive Mk where
  | val
  | GG
  | Sl (v : AV)
  | N9
def J1 (P : Program) (o : Oper) : Option AV :=
  match o.op with
  | .makeSlice T (.const (.int _ n)) _ =>
    match P.underlying T with
    | some (.slice e)=>match bE P e with | some z=>some (.sl (P.cellsOf e) n.toNat (ig (n.toNat * P.cellsOf e) z) .no) | none=>none
    | _=>none
  | _=>none
def qA (P : Program) (N : Nat) (o : Oper) : Bool :=
  match o.guard,o.dst,o.op with
  | none,some d,.alloc T=>decide (d < N) && (bE P T).isSome
  | none,some d,.makeSlice T (.const (.int _ n)) (.const (.int _ m)) =>
    decide (d < N) && (match P.underlying T with
      | some (.slice e)=>(match bE P e with
        | some z=>decide (0≤n) && (decide (m = n) && (decide (P.bytesOf e * n≤70368744177664) && (decide (n≤70368744177664) && (decide (P.cellsOf e≠0) && decide (z.length = P.cellsOf e)))))
        | none=>false)
      | _=>false)
  | _,_,_=>false
def LQ (P : Program) (Γ : Nat→List AV) (o : Oper) (E : Env) (v : AV) : Prop :=
  o.guard = none ∧
  match o.op with
  | .call { callee:=.value f,args,.. } =>
    match aN Γ E f with
    | .v (.func (.func k) first dm)=>first.isEmpty = true∧dm.isEmpty = true∧ai P k = true∧∀ s,ah P Γ k (args.toList.map (aN Γ E)) s (fun r s'=>r = v∧s' = s)
    | _=>False
  | _=>False
def GV (P : Program) (Γ : Nat→List AV) (N : Nat) (ops : Array Oper) (m : Mk) (o : Oper) (E : Env) (v : AV) : Prop :=
  match m with
  | .Sl u=>v = u∧LQ P Γ o E u
  | .val=>cw P Γ ops o E = some v
  | .N9=>qA P N o = true∧J1 P o = some v
  | .GG=>False
def Mk.kD : Mk→Bool
  | .GG=>true
  | _=>false
def p9 (P : Program) (Γ : Nat→List AV) (N : Nat) (ops : Array Oper) : List (Oper × Mk)→(Env→AS→Prop)→Env→AS→Prop
  | [],K,E,s=>K E s
  | (o,m) :: rest,K,E,s =>
    if m.kD = true then AX P Γ N ops [o] (p9 P Γ N ops rest K) E s
    else (∀ d,o.dst = some d→d < N)∧∃ v,GV P Γ N ops m o E v∧p9 P Γ N ops rest K (bD E o.dst v) s
theorem Hu {o : Oper} {E E' : Env} {v : AV} (h : ∀ d,d ∈ o.looksAt ops→E' d = E d) (hv : LQ P Γ o E v) : LQ P Γ o E' v:=by
  have nf : ∀ x ∈ o.op.operands,aN Γ E' x = aN Γ E x:=fun x hx=>by
    cases x with
    | tmp t=>exact h t (List.mem_append_left _ (List.mem_filterMap.2 ⟨.tmp t,by simpa using hx,rfl⟩))
    | const v=>rfl
    | global g=>rfl
    | func f=>rfl
  obtain ⟨hg,hv⟩:=hv;refine ⟨hg,?_⟩;cases hc : o.op <;> rw [hc] at hv;case call c =>
    obtain ⟨callee,args,argTypes⟩:=c;rw [hc] at nf;cases callee with
    | value f =>
      have hf : aN Γ E' f = aN Γ E f:=nf f (by simp [Op.operands,Call.operands]);have ha : args.toList.map (aN Γ E') = args.toList.map (aN Γ E):=List.map_congr_left fun x hx=>nf x (by
        have : x ∈ args:=(by simpa using hx);simp [Op.operands,Call.operands,this])
      simp only [hf,ha];exact hv
    | invoke r m=>exact hv
    | builtin b=>exact hv
  all_goals exact hv
theorem uz {m : Mk} {o : Oper} {E E' : Env} {v : AV} (h : ∀ d,d ∈ o.looksAt ops→E' d = E d) (hv : GV P Γ N ops m o E v) : GV P Γ N ops m o E' v:=by
  cases m with
  | Sl u=>exact ⟨hv.1,Hu h hv.2⟩
  | N9=>exact hv
  | val=>exact (mf h).trans hv
  | GG=>exact hv
theorem J2 {m : Mk} {o : Oper} {E : Env} {v v' : AV} (h : GV P Γ N ops m o E v) (h' : GV P Γ N ops m o E v') : v = v':=by
  cases m with
  | Sl u=>exact h.1.trans h'.1.symm
  | N9=>exact Option.some.inj (h.2.symm.trans h'.2)
  | val=>exact Option.some.inj (Eq.trans (Eq.symm h) h')
  | GG=>exact h.elim
theorem OL {o : Oper} {E : Env} {v : AV} {K : Env→AS→Prop} (hd : ∀ d,o.dst = some d→d < N) (hv : LQ P Γ o E v) (h : K (bD E o.dst v) s) : AX P Γ N ops [o] K E s:=by
  obtain ⟨hg,hv⟩:=hv;simp only [AX,hg];refine ⟨hd,?_⟩;cases hc : o.op <;> rw [hc] at hv;case call c =>
    obtain ⟨callee,args,argTypes⟩:=c;cases callee with
    | value f =>
      simp only [cE,dg,dJ];simp only at hv;split at hv
      · rename_i k first dm hf
        simp only [hf];obtain ⟨h1,h2,h3,h4⟩:=hv;refine ⟨h1,h2,h3,(h4 s).mono ?_⟩;rintro r s' ⟨rfl,rfl⟩;exact h
      · cases hv
    | invoke r m=>cases hv
    | builtin b=>cases hv
  all_goals cases hv
theorem LR {o : Oper} {m : Mk} (OM : m≠.N9) {L : List (Oper × Mk)} {E : Env} {K : Env→AS→Prop} (h : p9 P Γ N ops ((o,m) :: L) K E s) : AX P Γ N ops [o] (p9 P Γ N ops L K) E s:=by
  simp only [p9] at h;split at h
  · exact h
  · obtain ⟨hd,v,hv,h⟩:=h;cases m with
    | Sl u =>
      obtain ⟨rfl,hv⟩:=hv;exact OL hd hv h
    | GG=>exact hv.elim
    | N9=>exact absurd rfl OM
    | val =>
      have hv : cw P Γ ops o E = some v:=hv;have : qp P Γ N ops [(o,false)] (p9 P Γ N ops L K) E s:=by
        simp only [qp,Bool.false_eq_true,if_false,hv];exact ⟨hd,h⟩
      have:=Hi this;simpa only [qp] using this
def ej (P : Program) (Γ : Nat→List AV) (N : Nat) (ops : Array Oper) (o : Oper) : Prop :=
  ∃ (v : Nat→AV) (z : List AV),∀ (E : Env) (s : AS) (K : Env→AS→Prop),AX P Γ N ops [o] K E s↔∀ ob,s.aJ ob = none→K (bD E o.dst (v ob)) (s.set ob z)
theorem Hv {f o : Oper} (hf : ej P Γ N ops f) (ho : ej P Γ N ops o) (hd : ∀ d,f.dst = some d→o.dst≠some d) {E : Env} {K : Env→AS→Prop}
    (h : AX P Γ N ops [f] (fun E s=>AX P Γ N ops [o] K E s) E s) : AX P Γ N ops [o] (fun E s=>AX P Γ N ops [f] K E s) E s:=by
  obtain ⟨vf,zf,hf⟩:=hf;obtain ⟨vo,zo,ho⟩:=ho;rw [ho];intro o2 h2;rw [hf];intro o1 h1;rw [hf] at h;have dz : o1≠o2:=(by rintro rfl; rw [AS.aj] at h1; cases h1);rw [AS.aR _ dz] at h1;have:=(ho _ _ _).1 (h o1 h1) o2 (by rw [AS.aR _ dz.symm]; exact h2);have e1 : ((s.set o1 zf).set o2 zo) = ((s.set o2 zo).set o1 zf):=by
    simp only [AS.set,AS.mk.injEq,and_true];funext i;simp only [aG];by_cases a : i = o1
    · subst a; simp [dz]
    · by_cases b : i = o2
      · subst b; simp [dz.symm]
      · simp [a,b]
  rw [e1,oz hd] at this;exact this
theorem ej.alloc {T : TypeId} {z : List AV} {d : Tmp} {ty : TypeId} {pos : String} {after : Array Edge} (hz : bE P T = some z) (hd : d < N) : ej P Γ N ops { dst:=some d,op:=.alloc T,type:=ty,pos:=pos,after:=after,guard:=none }:=by
  refine ⟨fun o=>.ptr o 0,z,fun E s K=>?_⟩;simp only [AX,cE,dg,dJ,hz];refine ⟨fun h=>h.2,fun h=>⟨fun d' Ht=>?_,h⟩⟩;cases Ht; exact hd
theorem ej.make {T e : TypeId} {k k' : IntKind} {n m : Int} {z : List AV} {d : Tmp} {ty : TypeId} {pos : String} {after : Array Edge} (hT : P.underlying T = some (.slice e)) (hz : bE P e = some z)
    (h : 0≤n∧m = n∧P.bytesOf e * n≤2 ^ 46∧n≤2 ^ 46∧P.cellsOf e≠0∧z.length = P.cellsOf e) (hd : d < N) : ej P Γ N ops { dst:=some d,op:=.makeSlice T (.const (.int k n)) (.const (.int k' m)),type:=ty,pos:=pos,after:=after,guard:=none }:=by
  refine ⟨fun o=>.dj o 0 (P.cellsOf e) n.toNat n.toNat,ig (n.toNat * P.cellsOf e) z,fun E s K=>?_⟩;simp only [AX,cE,dg,dJ,aN,hT,hz];obtain ⟨h1,h2,h3,h4,h5,h6⟩:=h;refine ⟨fun h=>h.2.2.2.2.2.2.2,fun h=>⟨fun d' Ht=>?_,h1,h2,h3,h4,h5,h6,h⟩⟩;cases Ht; exact hd
theorem Fc {o : Oper} (h : qA P N o = true) : ej P Γ N ops o:=by
  obtain ⟨dst,op,ty,pos,after,guard⟩:=o;unfold qA at h;split at h
  · rename_i d T h1 h2 h3;simp only at h1 h2 h3;subst h1 h2 h3;simp only [Bool.and_eq_true,decide_eq_true_eq] at h;obtain ⟨hd,hz⟩:=h;obtain ⟨z,hz⟩:=Option.isSome_iff_exists.1 hz;exact ej.alloc hz hd
  · rename_i d T k n k' m h1 h2 h3;simp only at h1 h2 h3;subst h1 h2 h3;simp only [Bool.and_eq_true] at h;obtain ⟨hd,h⟩:=h;split at h
    · rename_i e hT;split at h
      · rename_i z hz;simp only [Bool.and_eq_true,decide_eq_true_eq] at h;obtain ⟨q1,q2,q3,q4,q5,q6⟩:=h;exact ej.make hT hz ⟨q1,q2,by simpa using q3,by simpa using q4,q5,q6⟩ (of_decide_eq_true hd)
      · cases h
    · cases h
  · cases h
theorem Cm {o : Oper} {v : AV} (hb : qA P N o = true) (hv : J1 P o = some v) : ∃ (d : Tmp) (sz n : Nat) (z : List AV),o.dst = some d ∧
    (∀ (E : Env) (s : AS) (K : Env→AS→Prop),AX P Γ N ops [o] K E s↔∀ ob,s.aJ ob = none→K (bD E o.dst (.dj ob 0 sz n n)) (s.set ob z))∧v = .sl sz n z .no∧z.length = n * sz:=by
  obtain ⟨dst,op,ty,pos,after,guard⟩:=o;unfold qA at hb;split at hb
  · rename_i d T h1 h2 h3;simp only at h1 h2 h3;subst h1 h2 h3;simp [J1] at hv
  · rename_i d T k n k' m h1 h2 h3;simp only at h1 h2 h3;subst h1 h2 h3;simp only [Bool.and_eq_true] at hb;obtain ⟨hd,hb⟩:=hb;split at hb
    · rename_i e hT;split at hb
      · rename_i z hz;simp only [Bool.and_eq_true,decide_eq_true_eq] at hb;obtain ⟨q1,q2,q3,q4,q5,q6⟩:=hb;simp only [J1,hT,hz,Option.some.injEq] at hv;refine ⟨d,P.cellsOf e,n.toNat,ig (n.toNat * P.cellsOf e) z,rfl,fun E s K=>?_,hv.symm,?_⟩
        · simp only [AX,cE,dg,dJ,aN,hT,hz];refine ⟨fun h=>h.2.2.2.2.2.2.2,fun h=>⟨fun d' Ht=>?_,q1,q2,by simpa using q3,by simpa using q4,q5,q6,h⟩⟩;cases Ht; exact of_decide_eq_true hd
        · simp [ig]
      · cases hb
    · cases hb
  · cases hb
theorem IV {o : Oper} {d : Tmp} {sz n : Nat} {z : List AV} {E : Env} {G' : Gh} {a' : Act} {w' : World} {ob : Nat} (hd : o.dst = some d) (hz : z.length = n * sz) (ho : s.aJ ob = none)
    (hr : Rel Γ N G' (bD E o.dst (.dj ob 0 sz n n)) (s.set ob z) a' w') : ∃ G2,G'.le G2∧Rel Γ N G2 (bD E o.dst (.sl sz n z .no)) s a' w':=by
  rw [hd] at hr ⊢;have hg:=fw.freeze (Γ:=Γ) (N:=N) (E:=bD E (some d) (.dj ob 0 sz n n)) (s:=s.set ob z) (d:=d) (o:=ob) (off:=0) (sz:=sz) (n:=n) (cap:=n) (by simp [bD,aG]) (AS.aj _ _ _) (by omega);rw [AS.drop_set ho,List.drop_zero,List.take_of_length_le (by omega)] at hg;obtain ⟨G2,k1,k2⟩:=hg _ _ _ hr;refine ⟨G2,k1,?_⟩;have : aG (bD E (some d) (.dj ob 0 sz n n)) d (.sl sz n z .no) = bD E (some d) (.sl sz n z .no):=by
    funext i;simp only [bD,aG];split <;> rfl
  rwa [this] at k2
theorem LS {o : Oper} {m : Mk} {L : List (Oper × Mk)} {E : Env} {a : Act} {K : Env→AS→Prop} (h : p9 P Γ N ops ((o,m) :: L) K E s) (hr : Rel Γ N G E s a w) :
    ∃ G' E' s' a' w',Rel Γ N G' E' s' a' w'∧p9 P Γ N ops L K E' s'∧∀ i,o.dst≠some i→E' i = E i:=by
  by_cases hm : m = .N9
  · subst hm;simp only [p9,Mk.kD,Bool.false_eq_true,if_false] at h;obtain ⟨_,v,⟨hb,hv⟩,h⟩:=h;obtain ⟨d,sz,n,z,hd,hax,rfl,hz⟩:=Cm (Γ:=Γ) (ops:=ops) hb hv;have:=(hax E s (fun E' s'=>∃ ob,s.aJ ob = none∧E' = bD E o.dst (.dj ob 0 sz n n)∧s' = s.set ob z)).2 fun ob ho=>⟨ob,ho,rfl,rfl⟩;obtain ⟨G',E',s',a',w',Bf,⟨ob,ho,rfl,rfl⟩,_⟩:=nC this hr;obtain ⟨G2,_,qz⟩:=IV hd hz ho Bf;exact ⟨G2,_,_,a',w',qz,h,fun i hi=>cq hi⟩
  · exact nC (LR hm h) hr
theorem Fe {y : Oper} {m : Mk} (hm : m.kD = false) {L2 : List (Oper × Mk)} {K : Env→AS→Prop} : ∀ (L1 : List (Oper × Mk)) {G : Gh} {E : Env} {s : AS} {a : Act} {w : World},(∀ x ∈ L1,gu ops x.1 y)→p9 P Γ N ops (L1 ++ (y,m) :: L2) K E s→Rel Γ N G E s a w →
    (∀ d,y.dst = some d→d < N)∧∃ v,GV P Γ N ops m y E v
  | [],G,E,s,a,w,_,h,hr=>by
    simp only [List.nil_append,p9,hm,Bool.false_eq_true,if_false] at h;obtain ⟨h1,v,h2,_⟩:=h;exact ⟨h1,v,h2⟩
  | (x,ex) :: L1,G,E,s,a,w,lB,h,hr=>by
    obtain ⟨G',E',s',a',w',Bf,hK,hf⟩:=LS h hr;obtain ⟨h1,v,h2⟩:=Fe hm L1 (fun x hx=>lB x (List.mem_cons_of_mem _ hx)) hK Bf;refine ⟨h1,v,uz (fun d hd=>(hf d fun e=>?_).symm) h2⟩;exact (Oper.apart_spec (lB (x,ex) (by simp))).1 d e hd
theorem nX {y : Oper} {m : Mk} (hm : m.kD = false) {L2 : List (Oper × Mk)} {K : Env→AS→Prop} {v : AV} : ∀ (L1 : List (Oper × Mk)) {E : Env} {s : AS},(∀ x ∈ L1,gu ops x.1 y)→GV P Γ N ops m y E v→p9 P Γ N ops (L1 ++ (y,m) :: L2) K E s →
    p9 P Γ N ops (L1 ++ L2) K (bD E y.dst v) s
  | [],E,s,_,hv,h=>by
    simp only [List.nil_append,p9,hm,Bool.false_eq_true,if_false] at h;obtain ⟨_,u,hu,h⟩:=h;rw [J2 hv hu];exact h
  | (x,ex) :: L1,E,s,lB,hv,h=>by
    obtain ⟨a1,a2,a3⟩:=Oper.apart_spec (lB (x,ex) (by simp));have tb : ∀ x ∈ L1,gu ops x.1 y:=fun x hx=>lB x (List.mem_cons_of_mem _ hx);have Qy : ∀ E' : Env,(∀ i,x.dst≠some i→E' i = E i)→GV P Γ N ops m y E' v:=fun E' hE=>uz (fun d hd=>hE d fun e=>a1 d e hd) hv;simp only [List.cons_append,p9] at h ⊢;split at h
    · rename_i he;rw [if_pos he];refine (vF (fun d hd=>a3 d hd) (fun d hd e=>a2 d e hd)).2 ?_;refine dp _ (fun E' s' hE=>?_) (dL h);exact nX hm L1 tb (Qy E' hE.2) hE.1
    · rename_i he;rw [if_neg he];obtain ⟨h0,u,hu,h⟩:=h;refine ⟨h0,u,uz (fun d hd=>cq fun e=>a3 d e hd) hu,?_⟩;rw [oz (fun d h1 h2=>a2 d h2 h1)];exact nX hm L1 tb (Qy _ fun i hi=>cq hi) h
theorem nY {y : Oper} {L2 : List (Oper × Mk)} {K : Env→AS→Prop} : ∀ (L1 : List (Oper × Mk)) {E : Env} {s : AS},(∀ x ∈ L1,gu ops x.1 y∧(x.2.kD = false∨(ej P Γ N ops x.1∧ej P Γ N ops y)))→p9 P Γ N ops (L1 ++ (y,.GG) :: L2) K E s →
    AX P Γ N ops [y] (p9 P Γ N ops (L1 ++ L2) K) E s
  | [],E,s,_,h=>by simpa only [List.nil_append,p9,Mk.kD,if_true] using h
  | (x,ex) :: L1,E,s,lB,h=>by
    obtain ⟨Lu,hex⟩:=lB (x,ex) (by simp);simp only at hex;obtain ⟨a1,a2,a3⟩:=Oper.apart_spec Lu;have tb : ∀ x ∈ L1,gu ops x.1 y∧(x.2.kD = false∨(ej P Γ N ops x.1∧ej P Γ N ops y)):=fun x hx=>lB x (List.mem_cons_of_mem _ hx);cases hx : ex.kD with
    | true =>
      rw [hx] at hex;rcases hex with hex | ⟨f1,f2⟩
      · cases hex
      simp only [List.cons_append,p9,hx,if_true] at h ⊢;exact Hv f1 f2 (fun d hd e=>a2 d hd e) (dp _ (fun E' s' hE=>nY L1 tb hE) h)
    | false =>
      simp only [List.cons_append,p9,hx,Bool.false_eq_true,if_false] at h;obtain ⟨h0,v,hv,h⟩:=h;have h1:=nY L1 tb h;have h2:=(vF (fun d hd=>a1 d hd) (fun d hd=>a2 d hd)).1 h1;refine dp _ (fun E' s' hE=>?_) (dL h2);simp only [List.cons_append,p9,hx,Bool.false_eq_true,if_false];exact ⟨h0,v,uz (fun d hd=>hE.2 d fun e=>a3 d e hd) hv,hE.1⟩
theorem rq : ∀ (L : List (Oper × Mk)) {K : Env→AS→Prop} {E : Env} {s : AS},p9 P Γ N ops L K E s→p9 P Γ N ops L (fun E' s'=>K E' s'∧∀ i,i ∉ bP (L.map (·.1))→E' i = E i) E s
  | [],K,E,s,h=>⟨h,fun _ _=>rfl⟩
  | (o,mm) :: L,K,E,s,h=>by
    have mono : ∀ (L : List (Oper × Mk)) {K K' : Env→AS→Prop} {E : Env} {s : AS},(∀ E s,K E s→K' E s)→p9 P Γ N ops L K E s→p9 P Γ N ops L K' E s:=by
      intro L;induction L with
      | nil=>intro K K' E s hk h; exact hk _ _ h
      | cons x L ih =>
        intro K K' E s hk h;simp only [p9] at h ⊢;split at h
        · rename_i he; rw [if_pos he]; exact dp _ (fun E s h=>ih hk h) h
        · rename_i he;rw [if_neg he];obtain ⟨h0,v,hv,h⟩:=h;exact ⟨h0,v,hv,ih hk h⟩
    have iH : ∀ i,i ∉ bP (((o,mm) :: L).map (·.1))→i ∉ bP (L.map (·.1))∧o.dst≠some i:=by
      intro i hi;simp only [bP,List.map_cons,List.filterMap_cons] at hi;refine ⟨fun hm=>hi ?_,fun e=>hi (by simp [e])⟩;simp only [bP] at hm;split
      · exact hm
      · exact List.mem_cons_of_mem _ hm
    simp only [p9] at h ⊢;split at h
    · rename_i he;rw [if_pos he];refine dp _ (fun E' s' hE=>?_) (dL h);refine mono L (fun iG im EE=>⟨EE.1,fun i hi=>?_⟩) (rq L hE.1);obtain ⟨m1,m2⟩:=iH i hi;rw [EE.2 i m1,hE.2 i m2]
    · rename_i he;rw [if_neg he];obtain ⟨h0,v,hv,h⟩:=h;refine ⟨h0,v,hv,mono L (fun iG im EE=>⟨EE.1,fun i hi=>?_⟩) (rq L h)⟩;obtain ⟨m1,m2⟩:=iH i hi;rw [EE.2 i m1,cq m2]
def lh (ops : Array Oper) (mk : Nat→Mk) (i : Nat) : Oper × Mk:=((ops[i]?).getD default,mk i)
def zw (ops : Array Oper) (D : List Nat) (mk : Nat→Mk) (fr : List Nat) : Bool :=
  (List.range ops.size).all fun j=>(List.range j).all fun i =>
    match ops[i]?,ops[j]? with
    | some x,some y=>(D.getD j 0).testBit i || (x.apart ops y && !((mk i).kD && (mk j).kD && !(fr.contains i && fr.contains j)))
    | _,_=>true
def rr (ops : Array Oper) (mk : Nat→Mk) (fr : List Nat) : Bool :=
  B4 ops (Region.before ops).toList && zw ops (Region.before ops).toList mk fr
theorem uA {mk : Nat→Mk} {fr : List Nat} (A7 : ∀ i ∈ fr,ej P Γ N ops ((ops[i]?).getD default)) {Q : Exit→Act→World→Prop} {K : Env→AS→Prop} (kS : rr ops mk fr = true) :
    ∀ (fuel : Nat) (listed : Array Bool) {G : Gh} {E : Env} {s : AS} {a : Act} {w : World},listed.size = ops.size→(left ops listed).length≤fuel →
      (∀ (i : Nat) (o : Oper),ops[i]? = some o→listed.getD i true = true→∀ e ∈ o.after.toList,Region.binds .any e = true→listed.getD e.on false = true) →
      p9 P Γ N ops ((left ops listed).map (lh ops mk)) K E s→Rel Γ N G E s a w →
      (∀ G' E' s' a' w',G.le G'→Rel Γ N G' E' s' a' w'→K E' s'→Q .normal a' w')→wpAnyIn (xf rd) 0 P .any ops Q fuel listed a w:=by
  simp only [rr,Bool.and_eq_true] at kS
  obtain ⟨EB,mh⟩:=kS
  intro fuel
  have rT : ∀ (listed : Array Bool),Region.ready .any ops listed = []→left ops listed = []:=by
    intro listed h
    -- the first that is left could go
    cases hl : left ops listed with
    | nil=>rfl
    | cons i L =>
      exfalso
      have hi : i ∈ left ops listed:=by rw [hl]; simp
      obtain ⟨h1,h2⟩:=mem_left.1 hi
      have Hj : ∀ j,j < i→listed.getD j true = true:=by
        intro j hj
        cases JI : listed.getD j true with
        | true=>rfl
        | false =>
          exfalso
          have ID : j ∈ left ops listed:=mem_left.2 ⟨by omega,JI⟩
          have hs : (left ops listed).Pairwise (· < ·):=by
            unfold left
            exact List.Pairwise.filter _ List.pairwise_lt_range
          rw [hl] at hs ID
          rcases List.mem_cons.1 ID with rfl | ID
          · omega
          · have:=(List.pairwise_cons.1 hs).1 j ID
            omega
      have ho : ops[i]? = some ops[i]:=by simp [h1]
      have hr : i ∈ Region.ready .any ops listed:=by
        rw [mem_ready]
        refine ⟨h2,_,ho,fun e he hb=>?_⟩
        have cN:=(jy EB ho).2 e (by simpa using he) hb
        have:=Hj _ cN
        -- both defaults agree where the place is there
        have fY : e.on < listed.size:=by
          rcases Nat.lt_or_ge e.on listed.size with h' | h'
          · exact h'
          · exfalso
            have : listed.getD i true = true:=by
              simp [Array.getElem?_eq_none (show listed.size≤i by omega)]
            rw [h2] at this; cases this
        simpa [fY] using this
      rw [h] at hr
      cases hr
  induction fuel with
  | zero =>
    intro listed G E s a w fY hlen fM h hr hq
    have hl : left ops listed = []:=List.eq_nil_of_length_eq_zero (by omega)
    have mi : Region.ready .any ops listed = []:=by
      cases UN : Region.ready .any ops listed with
      | nil=>rfl
      | cons i L =>
        exfalso
        have : i ∈ Region.ready .any ops listed:=by rw [UN]; simp
        rw [mem_ready] at this
        obtain ⟨h0,o,ho,_⟩:=this
        have : i ∈ left ops listed:=mem_left.2 ⟨(Array.getElem?_eq_some_iff.1 ho).1,h0⟩
        rw [hl] at this
        cases this
    rw [hl] at h
    exact ⟨mi,hq G E s a w (.refl G) hr h⟩
  | succ fuel ih =>
    intro listed G E s a w fY hlen fM h hr hq
    refine ⟨fun mi=>?_,fun i hi=>?_⟩
    · rw [rT listed mi] at h
      exact hq G E s a w (.refl G) hr h
    · obtain ⟨h0,o,ho,bT⟩:=mem_ready.1 hi
      have EC : i < ops.size:=(Array.getElem?_eq_some_iff.1 ho).1
      obtain ⟨L1,L2,q1,q2,q3⟩:=yV fY EC h0
      -- what comes before i is done
      have uh : ∀ (j : Nat) (oj : Oper),ops[j]? = some oj→(∀ e ∈ oj.after.toList,Region.binds .any e = true→listed.getD e.on false = true)→∀ l,((Region.before ops).toList.getD j 0).testBit l = true→listed.getD l false = true:=by
        intro j
        induction j using Nat.strongRecOn with
        | _ j UO =>
          intro oj B5 hj l hl
          obtain ⟨d1,d2⟩:=jy EB B5
          obtain ⟨e,he,hb,h1⟩:=d1 l hl
          have xh:=hj e he hb
          rcases h1 with rfl | h1
          · exact xh
          · have cN:=d2 e he hb
            have UQ : e.on < ops.size:=by
              have:=(Array.getElem?_eq_some_iff.1 B5).1
              omega
            have ED : ops[e.on]? = some ops[e.on]:=by simp [UQ]
            refine UO e.on cN _ ED (fM e.on _ ED ?_) l h1
            have : e.on < listed.size:=by omega
            simpa [this] using xh
      have sy : ∀ x ∈ L1,gu ops ((ops[x]?).getD default) o∧((mk x).kD = false∨(mk i).kD = false∨(fr.contains x = true∧fr.contains i = true)):=by
        intro x hx
        obtain ⟨UR,JT⟩:=q3 x hx
        unfold zw at mh
        rw [List.all_eq_true] at mh
        have h1:=mh i (by simpa using EC)
        rw [List.all_eq_true] at h1
        have h2:=h1 x (by simpa using UR)
        have Qz : ops[x]? = some (ops[x]'(by omega)):=by simp
        rw [Qz,ho] at h2
        simp only [Bool.or_eq_true,Bool.and_eq_true,Bool.not_eq_true'] at h2
        rcases h2 with h2 | ⟨h2,h3⟩
        · exfalso
          have:=uh i o ho (fun e he hb=>bT e (by simpa using he) hb) x h2
          have US : x < listed.size:=by omega
          simp [US] at this JT
          rw [JT] at this; cases this
        · refine ⟨by rw [Qz]; exact h2,?_⟩
          cases e1 : (mk x).kD with
          | false=>exact Or.inl rfl
          | true =>
            cases e2 : (mk i).kD with
            | false=>exact Or.inr (Or.inl rfl)
            | true =>
              rw [e1,e2] at h3
              simp only [Bool.true_and,Bool.not_eq_eq_eq_not,Bool.not_false,Bool.and_eq_true,Bool.not_eq_true'] at h3
              exact Or.inr (Or.inr (by simpa using h3))
      have ff : ∀ {G' : Gh} {E' : Env} {s' : AS} {a' : Act} {w' : World},G.le G'→p9 P Γ N ops ((L1 ++ L2).map (lh ops mk)) K E' s'→Rel Γ N G' E' s' a' w'→wpAnyIn (xf rd) 0 P .any ops Q fuel (listed.setIfInBounds i true) a' w':=by
        intro G' E' s' a' w' hle hA Bf
        refine ih (listed.setIfInBounds i true) (by simpa using fY) ?_ ?_ ?_ Bf (fun yu iG im BZ yt k1 k2 k3=>hq yu iG im BZ yt (hle.trans k1) k2 k3)
        · rw [q2]
          rw [q1] at hlen
          simp at hlen ⊢
          omega
        · intro j oj B5 hj e he hb
          by_cases GH : j = i
          · subst GH
            rw [ho] at B5; cases B5
            exact getD_set_true (bT e (by simpa using he) hb)
          · rw [getD_set_ne true (Ne.symm GH)] at hj
            exact getD_set_true (fM j oj B5 hj e he hb)
        · rw [q2]; exact hA
      rw [q1] at h
      simp only [List.map_append,List.map_cons] at h ff
      have nf : lh ops mk i = (o,mk i):=by simp [lh,ho]
      rw [nf] at h
      cases hf : (mk i).kD with
      | false =>
        have lB : ∀ x ∈ L1.map (lh ops mk),gu ops x.1 o:=by
          intro x hx
          obtain ⟨j,hj,rfl⟩:=List.mem_map.1 hx
          exact (sy j hj).1
        obtain ⟨hd,v,hv⟩:=Fe hf _ lB h hr
        have h1:=nX hf _ lB hv h
        have hX : p9 P Γ N ops ((o,mk i) :: (L1.map (lh ops mk) ++ L2.map (lh ops mk))) K E s:=by
          simp only [p9,hf,Bool.false_eq_true,if_false]
          exact ⟨hd,v,hv,h1⟩
        by_cases OM : mk i = .N9
        · rw [OM] at hv
          obtain ⟨hb,hv⟩:=hv
          obtain ⟨d,sz,n,z,hdd,hax,rfl,hz⟩:=Cm (Γ:=Γ) (ops:=ops) hb hv
          have h2:=(hax E s (fun E' s'=>∃ ob,s.aJ ob = none∧E' = bD E o.dst (.dj ob 0 sz n n)∧s' = s.set ob z)).2 fun ob eU=>⟨ob,eU,rfl,rfl⟩
          refine lA (L:=[]) (K:=fun E' s'=>∃ ob,s.aJ ob = none∧E' = bD E o.dst (.dj ob 0 sz n n)∧s' = s.set ob z) ho h2 hr (fun G' E' s' a' w' k1 k2 k3=>?_)
          obtain ⟨ob,eU,rfl,rfl⟩ : ∃ ob,s.aJ ob = none∧E' = bD E o.dst (.dj ob 0 sz n n)∧s' = s.set ob z:=k3
          obtain ⟨G2,k4,k5⟩:=IV hdd hz eU k2
          exact ff (k1.trans k4) h1 k5
        have h2:=LR OM hX
        exact lA (L:=[]) (K:=fun E s=>p9 P Γ N ops (L1.map (lh ops mk) ++ L2.map (lh ops mk)) K E s) ho h2 hr (fun G' E' s' a' w' k1 k2 k3=>ff k1 k3 k2)
      | true =>
        have U4 : mk i = .GG:=by
          cases hm : mk i with
          | GG=>rfl
          | val=>rw [hm] at hf; cases hf
          | N9=>rw [hm] at hf; cases hf
          | Sl u=>rw [hm] at hf; cases hf
        rw [U4] at h
        have lB : ∀ x ∈ L1.map (lh ops mk),gu ops x.1 o∧(x.2.kD = false∨(ej P Γ N ops x.1∧ej P Γ N ops o)):=by
          intro x hx
          obtain ⟨j,hj,rfl⟩:=List.mem_map.1 hx
          refine ⟨(sy j hj).1,?_⟩
          rcases (sy j hj).2 with k | k | ⟨k1,k2⟩
          · exact Or.inl k
          · rw [hf] at k; cases k
          · refine Or.inr ⟨A7 j (by simpa using k1),?_⟩
            have:=A7 i (by simpa using k2)
            rwa [ho] at this
        have h2:=nY _ lB h
        exact lA (L:=[]) (K:=fun E s=>p9 P Γ N ops (L1.map (lh ops mk) ++ L2.map (lh ops mk)) K E s) ho h2 hr (fun G' E' s' a' w' k1 k2 k3=>ff k1 k3 k2)
def kq (ops : Array Oper) (mk : Nat→Mk) : List (Oper × Mk):=(List.range ops.size).map (lh ops mk)
theorem vQ {E : Env} {Q : Exit→Env→AS→Prop} (hm : P.follows .mixedOrders = true) (mk : Nat→Mk) (fr : List Nat) {id : Nat} (kS : rr ops mk fr = true) (A7 : ∀ i ∈ fr,ej P Γ N ops ((ops[i]?).getD default)) (h : p9 P Γ N ops (kq ops mk) (fun E' s'=>Q .normal E' s') E s) :
    cI P Γ N (.region id ops true) Q E s:=by
  intro G a w hr;refine wpIn_region_any hm ?_;have qt : left ops (Array.replicate ops.size false) = List.range ops.size:=by
    unfold left;rw [List.filter_eq_self];intro i hi;have : i < ops.size:=(by simpa using hi);simp [this]
  have Bf : Rel Γ N G E s a w.drew:=⟨hr.st.drew,hr.size,hr.tmps,hr.defers⟩;refine uA A7 kS ops.size (Array.replicate ops.size false) (by simp) (by rw [qt]; simp) ?_ (by rw [qt]; exact rq _ h) Bf ?_
  · intro i o ho hl;have : i < ops.size:=(Array.getElem?_eq_some_iff.1 ho).1;simp [this] at hl
  · intro G' E' s' a' w' h1 h2 h3;refine ⟨G',E',s',h1,h2,h3.1,fun i hi=>h3.2 i fun hm=>hi ?_⟩;have : (kq ops mk).map (·.1) = ops.toList:=by
      apply List.ext_getElem?;intro j;simp only [kq,List.getElem?_map];by_cases hj : j < ops.size
      · simp [hj,lh]
      · simp [hj]
    have En : i ∈ bP ((kq ops mk).map (·.1)):=hm;rw [this] at En;exact En
def uB : List (Nat × AV)→Nat→Option AV
  | [],_=>none
  | (i,v) :: L,k=>if k = i then some v else uB L k
theorem oC {k : Nat} : uB [] k = none:=rfl
theorem mr {i k : Nat} {v : AV} {L : List (Nat × AV)} : uB ((i,v) :: L) k = if k = i then some v else uB L k:=rfl
def jZ : List (Nat × Nat)→Nat→Option Nat
  | [],_=>none
  | (i,v) :: L,k=>if k = i then some v else jZ L k
theorem mw {k : Nat} : jZ [] k = none:=rfl
theorem kE {i k v : Nat} {L : List (Nat × Nat)} : jZ ((i,v) :: L) k = if k = i then some v else jZ L k:=rfl
def lD (n : Nat) : AV:=.sl 1 n (List.replicate n (.v (.int .u8 0))) .no
def J3 (P : Program) (N : Nat) (o : Oper) (n : Nat) : Bool :=
  qA P N o &&
  match o.op with
  | .makeSlice T (.const (.int _ m)) _ =>
    decide (m = (n : Int)) && (match P.underlying T with
      | some (.slice e)=>decide (P.cellsOf e = 1) && (match bE P e with | some [.v (.int .u8 x)]=>decide (x = 0) | _=>false)
      | _=>false)
  | _=>false
theorem J4 {o : Oper} {n : Nat} (h : J3 P N o n = true) : qA P N o = true∧J1 P o = some (lD n):=by
  simp only [J3,Bool.and_eq_true] at h;obtain ⟨h1,h2⟩:=h;refine ⟨h1,?_⟩;split at h2
  · rename_i T k m y ho;simp only [Bool.and_eq_true,decide_eq_true_eq] at h2;obtain ⟨rfl,h2⟩:=h2;split at h2
    · rename_i e hT;simp only [Bool.and_eq_true,decide_eq_true_eq] at h2;obtain ⟨hc,h2⟩:=h2;split at h2
      · rename_i x hz;simp only [decide_eq_true_eq] at h2;subst h2;simp only [J1,ho,hT,hz,hc,lD,Nat.mul_one,yG,Int.toNat_natCast]
      · cases h2
    · cases h2
  · cases h2
def xR (fl : List Nat) (fz : List (Nat × Nat)) (gv : List (Nat × AV)) (i : Nat) : Mk:=if fl.contains i = true then .GG else match jZ fz i with | some _=>.N9 | none=>match uB gv i with | some v=>.Sl v | none=>.val
theorem Ff {fl : List Nat} {fz : List (Nat × Nat)} {gv : List (Nat × AV)} {i : Nat} : (xR fl fz gv i).kD = fl.contains i:=by
  unfold xR;split
  · rename_i h; rw [h]; rfl
  · rename_i h;rw [Bool.not_eq_true] at h;rw [h];cases jZ fz i with
    | some n=>rfl
    | none=>cases uB gv i <;> rfl
def Fg (ops : Array Oper) (D : List Nat) (fl fr : List Nat) : Bool :=
  (List.range ops.size).all fun j=>(List.range j).all fun i =>
    match ops[i]?,ops[j]? with
    | some x,some y=>(D.getD j 0).testBit i || (x.apart ops y && !(fl.contains i && fl.contains j && !(fr.contains i && fr.contains j)))
    | _,_=>true
def yx (P : Program) (N : Nat) (ops : Array Oper) (fl fr : List Nat) (fz : List (Nat × Nat)) : Bool :=
  B4 ops (Region.before ops).toList && Fg ops (Region.before ops).toList fl fr && (fr.all fun i=>qA P N ((ops[i]?).getD default)) &&
    (List.range ops.size).all fun i=>match ops[i]?,jZ fz i with | some o,some n=>J3 P N o n | _,_=>true
def xw (mk : Nat→Mk) : Nat→List Oper→List (Oper × Mk)
  | _,[]=>[]
  | k,o :: L=>(o,mk k) :: xw mk (k + 1) L
theorem Cn (mk : Nat→Mk) : ∀ (L : List Oper) (k i : Nat),(xw mk k L)[i]? = (L[i]?).map fun o=>(o,mk (k + i))
  | [],k,i=>by simp [xw]
  | o :: L,k,0=>by simp [xw]
  | o :: L,k,i + 1=>by
    simp only [xw,List.getElem?_cons_succ,Cn mk L (k + 1) i];rw [show k + 1 + i = k + (i + 1) by omega]
theorem zx (mk : Nat→Mk) : kq ops mk = xw mk 0 ops.toList:=by
  apply List.ext_getElem?;intro i;simp only [kq,List.getElem?_map,Cn,Nat.zero_add];by_cases h : i < ops.size
  · simp [h,lh]
  · simp [h]
def QG (P : Program) (Γ : Nat→List AV) (k : FuncId) (as : List AV) (v : AV) (c : Prop) : Prop:=(∀ s,ah P Γ k as s (fun r s'=>r = v∧s' = s))∧c
theorem U5 {k : FuncId} {as : List AV} {v : AV} {c : Prop} (h : ∀ s,ah P Γ k as s (fun r s'=>r = v∧s' = s)) (hc : c) : QG P Γ k as v c:=⟨h,hc⟩
def Sm (P : Program) (Γ : Nat→List AV) (N : Nat) (o : Oper) (v : AV) (C : Env→Prop) (E : Env) : Prop:=(∀ d,o.dst = some d→d < N)∧LQ P Γ o E v∧C (bD E o.dst v)
theorem oD {dst : Option Tmp} {k : FuncId} {args : Array Operand} {aT : Array TypeId} {ty : TypeId} {pos : String} {after : Array Edge} {v : AV} {C : Env→Prop} {E : Env} :
    Sm P Γ N { dst:=dst,op:=.call { callee:=.value (.func k),args:=args,argTypes:=aT },type:=ty,pos:=pos,after:=after,guard:=none } v C E =
      ((∀ d,dst = some d→d < N)∧ai P k = true∧QG P Γ k (args.toList.map (aN Γ E)) v (C (bD E dst v))):=by
  apply propext;constructor
  · rintro ⟨h1,⟨_,h2⟩,h3⟩;exact ⟨h1,h2.2.2.1,h2.2.2.2,h3⟩
  · rintro ⟨h1,h2,h3,h4⟩;exact ⟨h1,⟨rfl,⟨rfl,rfl,h2,h3⟩⟩,h4⟩
def Fh (P : Program) (Γ : Nat→List AV) (N : Nat) (ops : Array Oper) (fl : List Nat) (fz : List (Nat × Nat)) (gv : List (Nat × AV)) : Nat→List Oper→(Env→AS→Prop)→Env→AS→Prop
  | _,[],K,E,s=>K E s
  | k,o :: rest,K,E,s =>
    if fl.contains k = true then AX P Γ N ops [o] (Fh P Γ N ops fl fz gv (k + 1) rest K) E s
    else match jZ fz k with
      | some n=>(∀ d,o.dst = some d→d < N)∧Fh P Γ N ops fl fz gv (k + 1) rest K (bD E o.dst (lD n)) s
      | none =>
        match uB gv k with
        | some v=>Sm P Γ N o v (fun E=>Fh P Γ N ops fl fz gv (k + 1) rest K E s) E
        | none=>((∀ d,o.dst = some d→d < N)∧match cw P Γ ops o E with | some v=>Fh P Γ N ops fl fz gv (k + 1) rest K (bD E o.dst v) s | none=>False)
theorem LU : ∃ f : Program→(Nat→List AV)→Nat→Array Oper→List Nat→List (Nat × Nat)→List (Nat × AV)→Nat→List Oper→(Env→AS→Prop)→Env→AS→Prop,f = Fh:=⟨_,rfl⟩
noncomputable def ON : Program→(Nat→List AV)→Nat→Array Oper→List Nat→List (Nat × Nat)→List (Nat × AV)→Nat→List Oper→(Env→AS→Prop)→Env→AS→Prop:=Classical.choose LU
theorem Z8 : ON = Fh:=Classical.choose_spec LU
theorem uC {fl : List Nat} {fz : List (Nat × Nat)} {gv : List (Nat × AV)} {k : Nat} {K : Env→AS→Prop} {E : Env} : ON P Γ N ops fl fz gv k [] K E s = K E s:=by rw [Z8]; rfl
theorem qB {fl : List Nat} {fz : List (Nat × Nat)} {gv : List (Nat × AV)} {k : Nat} {o : Oper} {rest : List Oper} {K : Env→AS→Prop} {E : Env} : ON P Γ N ops fl fz gv k (o :: rest) K E s =
    if fl.contains k = true then AY P Γ N ops [o] (ON P Γ N ops fl fz gv (k + 1) rest K) E s
    else match jZ fz k with
      | some n=>(∀ d,o.dst = some d→d < N)∧ON P Γ N ops fl fz gv (k + 1) rest K (bD E o.dst (lD n)) s
      | none =>
        match uB gv k with
        | some v=>Sm P Γ N o v (fun E=>ON P Γ N ops fl fz gv (k + 1) rest K E s) E
        | none=>((∀ d,o.dst = some d→d < N)∧match cw P Γ ops o E with | some v=>ON P Γ N ops fl fz gv (k + 1) rest K (bD E o.dst v) s | none=>False):=by rw [Z8,ay]; rfl
theorem vR {fl : List Nat} {fz : List (Nat × Nat)} {gv : List (Nat × AV)} {K : Env→AS→Prop} : ∀ (L : List Oper) (k : Nat) {E : Env} {s : AS},(∀ i o n,L[i]? = some o→jZ fz (k + i) = some n→J3 P N o n = true) →
    Fh P Γ N ops fl fz gv k L K E s→p9 P Γ N ops (xw (xR fl fz gv) k L) K E s
  | [],k,E,s,_,h=>h
  | o :: L,k,E,s,hc,h=>by
    have Jz : ∀ i o n,L[i]? = some o→jZ fz (k + 1 + i) = some n→J3 P N o n = true:=fun i o' n h1 h2=>hc (i + 1) o' n (by simpa using h1) (by rw [show k + (i + 1) = k + 1 + i by omega]; exact h2);simp only [Fh] at h;simp only [xw,p9,Ff];cases hf : fl.contains k with
    | true =>
      rw [hf] at h;simp only [if_true] at h ⊢;have mono : ∀ {K K' : Env→AS→Prop} {E : Env} {s : AS},(∀ E s,K E s→K' E s)→AX P Γ N ops [o] K E s→AX P Γ N ops [o] K' E s:=fun hk h=>dp _ hk h;exact mono (fun E' s' hE=>vR L (k + 1) Jz hE) h
    | false =>
      rw [hf] at h;simp only [Bool.false_eq_true,if_false] at h ⊢;cases hz : jZ fz k with
      | some n =>
        rw [hz] at h;have hm : xR fl fz gv k = .N9:=(by unfold xR; rw [if_neg (by rw [hf]; simp),hz]);rw [hm];exact ⟨h.1,_,J4 (hc 0 o n rfl (by simpa using hz)),vR L (k + 1) Jz h.2⟩
      | none =>
        rw [hz] at h;simp only at h;cases hg : uB gv k with
        | some v =>
          rw [hg] at h;have hm : xR fl fz gv k = .Sl v:=(by unfold xR; rw [if_neg (by rw [hf]; simp),hz]; simp only [hg]);rw [hm];obtain ⟨h1,h2,h3⟩:=h;exact ⟨h1,v,⟨rfl,h2⟩,vR L (k + 1) Jz h3⟩
        | none =>
          rw [hg] at h;have hm : xR fl fz gv k = .val:=(by unfold xR; rw [if_neg (by rw [hf]; simp),hz]; simp only [hg]);rw [hm];refine ⟨h.1,?_⟩;have h:=h.2;split at h
          · rename_i v hv;exact ⟨v,hv,vR L (k + 1) Jz h⟩
          · exact h.elim
theorem uD {fl : List Nat} {fz : List (Nat × Nat)} {gv : List (Nat × AV)} {fr : List Nat} (h : yx P N ops fl fr fz = true) : rr ops (xR fl fz gv) fr = true∧(∀ i ∈ fr,ej P Γ N ops ((ops[i]?).getD default)) ∧
    ∀ i o n,ops.toList[i]? = some o→jZ fz (0 + i) = some n→J3 P N o n = true:=by
  simp only [yx,Bool.and_eq_true] at h;obtain ⟨⟨⟨h1,h2⟩,h3⟩,h4⟩:=h;refine ⟨?_,fun i hi=>Fc (List.all_eq_true.1 h3 i hi),fun i o n ho hn=>?_⟩
  · simp only [rr,Bool.and_eq_true];refine ⟨h1,?_⟩;unfold zw;unfold Fg at h2;simpa only [Ff] using h2
  · rw [Nat.zero_add] at hn;have sq : ops[i]? = some o:=(by simpa using ho);have hi : i < ops.size:=(Array.getElem?_eq_some_iff.1 sq).1;have:=List.all_eq_true.1 h4 i (by simpa using hi);rw [sq,hn] at this;exact this
section
variable {Q : Exit→Env→AS→Prop} {E : Env}
theorem Fi (hm : P.follows .mixedOrders = true) (fl : List Nat) (fz : List (Nat × Nat)) (gv : List (Nat × AV)) (fr : List Nat) {id : Nat} {L : List Oper} {y : Code} (kS : yx P N L.toArray fl fr fz = true) (h : ∀ K : Env→AS→Prop,(∀ E s,cI P Γ N y Q E s→K E s)→ON P Γ N L.toArray fl fz gv 0 L K E s) :
    cI P Γ N (.seq (.region id L.toArray true) y) Q E s:=by
  obtain ⟨h1,h2,h3⟩:=uD (Γ:=Γ) (gv:=gv) kS;refine kk (vQ hm (xR fl fz gv) fr h1 h2 ?_);have:=h _ (fun _ _ h=>h);rw [Z8] at this;rw [zx];exact vR L 0 h3 this
end
end Go.AM
namespace Go.AM
open Go Go.RowKit
variable {rd : Option Nat} {P : Program} {Γ : Nat→List AV} {G : Gh} {s : AS} {w : World} {N : Nat} {ops : Array Oper}
theorem uE {E : Env} {Q : Exit→Env→AS→Prop} (hm : P.follows .mixedOrders = true) (mk : Nat→Mk) (fr : List Nat) {id : Nat} (kS : rr ops mk fr = true) (A7 : ∀ i ∈ fr,ej P Γ N ops ((ops[i]?).getD default))
    (h : p9 P Γ N ops (kq ops mk) (fun E' s'=>∃ iG im,fw Γ N E' s' iG im∧(∀ i,i ∉ bP ops.toList→iG i = E' i)∧Q .normal iG im) E s) :
    cI P Γ N (.region id ops true) Q E s:=by
  intro G a w hr;refine wpIn_region_any hm ?_;have qt : left ops (Array.replicate ops.size false) = List.range ops.size:=by
    unfold left;rw [List.filter_eq_self];intro i hi;have : i < ops.size:=(by simpa using hi);simp [this]
  have Bf : Rel Γ N G E s a w.drew:=⟨hr.st.drew,hr.size,hr.tmps,hr.defers⟩;refine uA A7 kS ops.size (Array.replicate ops.size false) (by simp) (by rw [qt]; simp) ?_ (by rw [qt]; exact rq _ h) Bf ?_
  · intro i o ho hl;have : i < ops.size:=(Array.getElem?_eq_some_iff.1 ho).1;simp [this] at hl
  · intro G' E' s' a' w' h1 h2 h3;obtain ⟨⟨iG,im,k1,k2,k3⟩,k4⟩:=h3;obtain ⟨yu,q1,q2⟩:=k1 G' a' w' h2;refine ⟨yu,iG,im,h1.trans q1,q2,k3,fun i hi=>?_⟩;have aO : i ∉ bP ops.toList:=fun hm=>hi hm;rw [k2 i aO];refine k4 i fun hm=>hi ?_;have : (kq ops mk).map (·.1) = ops.toList:=by
      apply List.ext_getElem?;intro j;simp only [kq,List.getElem?_map];by_cases hj : j < ops.size
      · simp [hj,lh]
      · simp [hj]
    have En : i ∈ bP ((kq ops mk).map (·.1)):=hm;rw [this] at En;exact En
variable {Q : Exit→Env→AS→Prop} {E : Env}
theorem Dk (hm : P.follows .mixedOrders = true) (d1 d2 : Nat) (fl : List Nat) (fz : List (Nat × Nat)) (gv : List (Nat × AV)) (fr : List Nat) {id : Nat} {L : List Oper} {y : Code} (kS : yx P N L.toArray fl fr fz = true) (Fb : d1 ∈ bP L) (GJ : d2 ∈ bP L) (dz : d1≠d2)
    (h : ∀ K : Env→AS→Prop,(∀ E s o1 o2 GL GF,E d1 = .ptr o1 0→E d2 = .ptr o2 0→s.aJ o1 = none→(s.set o1 GL).aJ o2 = none→cI P Γ N y Q (aG (aG E d2 (.cX GF)) d1 (.cX GL)) s→K E ((s.set o1 GL).set o2 GF))→ON P Γ N L.toArray fl fz gv 0 L K E s) :
    cI P Γ N (.seq (.region id L.toArray true) y) Q E s:=by
  obtain ⟨h1,h2,h3⟩:=uD (Γ:=Γ) (gv:=gv) kS;refine kk (uE hm (xR fl fz gv) fr h1 h2 ?_);have:=h (fun E' s'=>∃ iG im,fw Γ N E' s' iG im∧(∀ i,i ∉ bP L→iG i = E' i)∧av (cI P Γ N y Q) Q .normal iG im) ?_
  · rw [Z8] at this;rw [zx];exact vR L 0 h3 this
  · intro E' s' o1 o2 GL GF h1 h2 h3 h4 h5;refine ⟨aG (aG E' d2 (.cX GF)) d1 (.cX GL),s',?_,?_,h5⟩
    · have g1:=fw.lQ (Γ:=Γ) (N:=N) (E:=E') (s:=(s'.set o1 GL).set o2 GF) (d:=d2) h2 (AS.aj _ _ _);rw [AS.drop_set h4] at g1;have g2:=fw.lQ (Γ:=Γ) (N:=N) (E:=aG E' d2 (.cX GF)) (s:=s'.set o1 GL) (d:=d1) (by rw [eG _ _ dz]; exact h1) (AS.aj _ _ _);rw [AS.drop_set h3] at g2;exact g1.trans g2
    · intro i hi;rw [eG _ _ (fun e=>hi (by rw [e]; exact Fb)),eG _ _ (fun e=>hi (by rw [e]; exact GJ))]
theorem Fj {s : AS} {o1 o2 : Nat} (h : o1≠o2) (a b c d : List AV) : (((s.set o1 a).set o2 b).set o1 c).set o2 d = (s.set o1 c).set o2 d:=by
  rw [AS.OG _ h,AS.set_set]
end Go.AM
namespace Go.AM
open Go Go.RowKit
variable {P : Program} {Γ : Nat→List AV} {G : Gh} {s : AS} {w : World} {N : Nat}
theorem te.aL.append {a b c d : List AV} (h : te.aL a c) (k : te.aL b d) : te.aL (a ++ b) (c ++ d):=by
  intro G v hv;have hl:=hv.length;have h1:=hv.take a.length;have h2:=hv.drop a.length;rw [List.take_left] at h1;rw [List.drop_left] at h2;have:=al.append (h G _ h1) (k G _ h2);rwa [List.take_append_drop] at this
def AS.tells (Γ : Nat→List AV) (s s' : AS) : Prop:=∀ G w,aU Γ G s w→aU Γ G s' w
theorem AS.tells.refl (s : AS) : AS.tells Γ s s:=fun _ _ h=>h
theorem aU.OO {o : Nat} {cs cs' : List AV} (h : aU Γ G s w) (ho : s.aJ o = some cs) (hw : te.aL cs cs') : aU Γ G (s.set o cs') w:=by
  refine ⟨h.ro,?_,h.dI,h.inj,h.own,h.dy,h.cB,h.dn,h.cG,h.below,h.others,h.base,h.jm,h.soft⟩;intro o' ds hd;by_cases e : o' = o
  · subst e;rw [AS.aj] at hd;cases hd;obtain ⟨b,vs,h1,h2,h3,h4⟩:=h.aJ o' cs ho;exact ⟨b,vs,h1,hw G vs h2,h3,h4⟩
  · rw [AS.aR _ e] at hd;exact h.aJ o' ds hd
theorem AS.j0 {o : Nat} {cs cs' : List AV} (ho : s.aJ o = some cs) (hw : te.aL cs cs') : AS.tells Γ s (s.set o cs'):=fun _ _ h=>h.OO ho hw
theorem iN {c : Code} {Q : Exit→Env→AS→Prop} {E : Env} {s s' : AS} (h : AS.tells Γ s s') (k : cI P Γ N c Q E s') : cI P Γ N c Q E s :=
  fun G a w hr=>k G a w ⟨h G w hr.st,hr.size,hr.tmps,hr.defers⟩
def cU (sz : Nat) (s0 s : AS) (x : AV) (n : Nat) (cs : List AV) : Prop:=(x = bL∧n = 0∧cs = [])∨∃ t e,x = .sl sz n cs (.own t e)∧s.own t = some e∧s0.own t = none
theorem cU.aL {sz : Nat} {s0 s : AS} {x : AV} {n : Nat} {cs : List AV} (h : cU sz s0 s x n cs) : x.aL (.sl sz n cs .any):=by
  rcases h with ⟨rfl,rfl,rfl⟩ | ⟨t,e,rfl,_,_⟩
  · exact AV.aP
  · exact AV.db
theorem cU.one {sz : Nat} {s0 s : AS} {x : AV} {n : Nat} {cs : List AV} (h : cU sz s0 s x n cs) : x.one = true:=by
  rcases h with ⟨rfl,_,_⟩ | ⟨t,e,rfl,_,_⟩
  · rfl
  · rfl
theorem cU.nil (sz : Nat) (s0 s : AS) : cU sz s0 s bL 0 []:=.inl ⟨rfl,rfl,rfl⟩
end Go.AM
