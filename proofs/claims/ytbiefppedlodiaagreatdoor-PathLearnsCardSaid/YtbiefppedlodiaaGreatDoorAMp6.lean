/- An abstract machine for the model and the rules of its walk, each proved sound over the model; no condition. -/
import Derived.Test.YtbiefppedlodiaaGreatDoorAMp5
import Derived.RangeFuncIn
import Derived.RangeFuncRecord
import Derived.RangeFuncSeq
import Derived.RangeFuncLeaves
import Derived.Test.YtbiefppedlodiaaGreatDoorAMp4
import Derived.SizedLaws
import Derived.OpenShut
set_option linter.unusedSimpArgs false
set_option linter.unusedVariables false
namespace Go.AM
open Go Go.RowKit
variable{rd:Option Nat}{P:Program}{Γ:Nat→List AV}{G:Gh}{s:AS}{w:World}
theorem pG{N:Nat}{E:Env}{Q:Exit→Env→AS→Prop}{id:Nat}(L1 L2:List Oper){o:Oper}{code:Code}(hg:o.guard=none)(hd:∀d,o.dst=some d→d<N)
    (h:AY P Γ N (L1++o::L2).toArray L1 (fun E1 s1=>∃K1:AV→AS→Prop,(∀G a w,Rel Γ N G E1 s1 a w→dp P Γ G K1 ((execOp a.eval o).run P w))∧
      ∀r s2,K1 r s2→AY P Γ N (L1++o::L2).toArray L2 (fun E' s'=>ct P Γ N code Q E' s') (bw E1 o.dst r) s2) E s):
    ct P Γ N (.seq (.region id (L1++o::L2).toArray false) code) Q E s:=by
  rw[ay] at h;refine lh ?_;intro G a w hr;refine wpIn_region ?_;have bS:∀ops:Array Oper,(List.range ops.size).map (ops[·]?)=ops.toList.map some:=by
    intro ops;apply List.ext_getElem?;intro i;simp only[List.getElem?_map];by_cases hi:i<ops.size
    · simp[hi]
    · simp[hi]
  have pH:=bS (L1++o::L2).toArray;generalize hI:List.range (L1++o::L2).toArray.size=I at pH;have h1:(I.take L1.length).map ((L1++o::L2).toArray[·]?)=L1.map some:=by
    rw[List.map_take,pH];simp
  have h2:(I.drop L1.length).map ((L1++o::L2).toArray[·]?)=(o::L2).map some:=by
    rw[List.map_drop,pH];simp
  rw[←List.take_append_drop L1.length I];generalize I.take L1.length=I1 at h1;generalize I.drop L1.length=I2 at h2;cases I2 with
  |nil=>simp at h2
  |cons i I2=>
    simp only[List.map_cons,List.cons.injEq] at h2;refine dX L1 I1 (i::I2) h1 (dI _ h) hr ?_;rintro G1 E1 s1 a1 w1 gy qZ ⟨⟨K1,ib,hk⟩,Cj⟩;rw[wpOpsIn_cons];simp only[wpOpIn,h2.1];rw[if_pos (eb hg)];refine(Oper.ng qZ hd (ib G1 a1 w1 qZ) ?_);intro G3 r s3 a3 w3 Q6 re hK;refine lK L2 I2 h2.2 (dI _ (hk r s3 hK)) re ?_;rintro G4 E4 s4 a4 w4 Vq Dx ⟨SI,KV⟩;refine⟨G4,E4,s4,gy.trans (Q6.trans Vq),Dx,SI,?_⟩;intro i hi;have mem:∀L:List Oper,i∈cC L↔∃o∈L,o.dst=some i:=(fun L=>by simp[cC,List.mem_filterMap]);have aY:¬∃o'∈L1++o::L2,o'.dst=some i:=fun hm=>hi ((mem _).2 hm);have m1:i∉cC L1:=fun hm=>aY (by obtain⟨o,k1,k2⟩:=(mem _).1 hm;exact⟨o,by simp[k1],k2⟩);have m2:i∉cC L2:=fun hm=>aY (by obtain⟨o,k1,k2⟩:=(mem _).1 hm;exact⟨o,by simp[k1],k2⟩);have m3:o.dst≠some i:=fun e=>aY ⟨o,by simp,e⟩;rw[KV i m2,cG m3,Cj i m1]
theorem Ck{N:Nat}{E:Env}{Q:Exit→Env→AS→Prop}{id:Nat}{L2:List Oper}{o:Oper}{code:Code}(hg:o.guard=none)(hd:∀d,o.dst=some d→d<N)(K1:AV→AS→Prop)
    (ib:∀G a w,Rel Γ N G E s a w→dp P Γ G K1 ((execOp a.eval o).run P w))
    (h:∀r s2,K1 r s2→AY P Γ N (o::L2).toArray L2 (fun E' s'=>ct P Γ N code Q E' s') (bw E o.dst r) s2):
    ct P Γ N (.seq (.region id (o::L2).toArray false) code) Q E s:=
  pG [] L2 hg hd (by rw[Gp];exact⟨K1,ib,h⟩)
theorem Eu{ρ:Operand→AV}{ρ':Operand→Value}{o:Oper}{T:TypeId}{len:Nat}{parts:Array (Nat×Operand)}{cs z:List AV}{e:TypeId}(ho:o.op=.buildSlice T len parts)
    (hu:P.underlying T=some (.slice e)) (hz:bo P e=some z) (c1:P.cellsOf e≠0) (c2:len*P.cellsOf e≤2^24) (c3:z.length=P.cellsOf e)
    (h1:iY (fun i=>some (i*P.cellsOf e,P.cellsOf e)) (nG (len*P.cellsOf e) z) (parts.toList.map fun p=>(p.1,ρ p.2))=some cs) (hρ:∀x,av G (ρ x) (ρ' x)) (hs:aQ Γ G s w):
    dp P Γ G (fun r s'=>∃ob,s.aw ob=none∧r=.ig ob 0 (P.cellsOf e) len len∧s'=s.set ob cs) ((execOp ρ' o).run P w):=by
  obtain⟨v,hv,rfl⟩:=dD hz;have cY:v.cells.toList≠[]:=by
    intro e';rw[e'] at c3;simp at c3;omega
  obtain⟨vs,h2,h3⟩:=kh (G:=G) (qs:=(parts.map fun p=>(p.1,ρ' p.2)).toList) _ h1 (by simpa using eV.of_map hρ parts.toList) (rF (len*P.cellsOf e) cY);obtain⟨ob,k1,k2,k3,k4⟩:=hs.newObj h3 e;refine(show execOp ρ' o=(do pure (.value (←Instr.buildSlice T len (parts.map fun p=>(p.1,ρ' p.2))))) by simp only[execOp,ho]) ▸ dE ⟨_,.slice (some ⟨w.heap.size,0,none⟩) len len,_,_,_,?_,k2,k3,?_,ob,k1,rfl,rfl⟩
  · simp only[Instr.buildSlice,Sem.run_bind,run_underlying hu,Result.andThen_ok,aS c1];rw[if_neg (by omega)];by_cases h0:len*P.cellsOf e=0
    · have kF:(Array.range (len*P.cellsOf e)).map (fun i=>(#[]:Array Value)[i%(#[]:Array Value).size]!)=((List.range (len*P.cellsOf e)).map fun i=>v.cells.toList.toArray[i%v.cells.toList.toArray.size]!).toArray:=by
        rw[h0];simp
      rw[if_pos h0];simp only[Sem.run_bind,Sem.run_pure,Result.andThen_ok,kF];simp only[h2];simp[newRow]
    · have kF:(Array.range (len*P.cellsOf e)).map (fun i=>v.cells[i%v.cells.size]!)=((List.range (len*P.cellsOf e)).map fun i=>v.cells.toList.toArray[i%v.cells.toList.toArray.size]!).toArray:=by
        apply Array.ext';simp
      rw[if_neg h0];simp only[Sem.run_bind,hv,Sem.run_pure,Result.andThen_ok,kF];simp only[h2];simp[newRow]
  · simp only[av];exact⟨_,k4,rfl,Nat.le_refl _⟩
end Go.AM
namespace Go.AM
open Go Go.RowKit
variable{P:Program}{Γ:Nat→List AV}{G:Gh}{s:AS}{w:World}{N:Nat}{E:Env}
theorem Oper.vQ{l:Option Nat}{a:Act}{o:Oper}{K:AV→AS→Prop}{next:Act→World→Prop}{Q:Exit→Act→World→Prop}(hnd:∀c,o.op≠.defer c)(hr:Rel Γ N G E s a w)(hd:∀d,o.dst=some d→d<N)
    (h:dp P Γ G K ((execOp a.eval o).run P w)) (hn:∀G' r s' a' w',G.le G'→Rel Γ N G' (bw E o.dst r) s' a' w'→K r s'→next a' w'):o.wpIn (uD l) 0 P a w next Q:=by
  refine⟨fun _ _=>trivial,?_⟩;rw[Oper.semAt_eq _ _ _ hnd];generalize (execOp a.eval o).run P w=R at h;cases R with
  |ok n w'=>
    cases n<;>simp only[dp] at h;case value v=>
      obtain⟨G',r,s',h1,h2,h3,h4⟩:=h;simp only[Oper.uponIn];exact hn G' r s' _ _ h1 (hr.put h1 h2 h3 hd) h4
    case skip=>
      obtain⟨G',s',h1,h2,h3⟩:=h;simp only[Oper.uponIn];exact hn G' (.v undef) s' _ _ h1 (hr.put h1 h2 (by simp[av]) hd) h3
    case enter f args=>
      simp only[Oper.uponIn];refine⟨(fun e=>by cases e),CallsIn.mono (F:=Fence.wide) (callsIn_wide.2 h) ?_⟩;rintro e wA ⟨G',r,v,s',rfl,h1,h2,h3,h4⟩;exact hn G' r s' _ _ h1 (hr.put h1 h2 h3 hd) h4
  |halt x w'=>simp only[dp] at h
theorem vR{ρ:Operand→AV}{K:AV→AS→Prop}{op:Op}(h:cc P Γ ρ s K op)(c:Call):op≠.defer c:=by
  rintro rfl;simp[cc,cL,dj] at h
theorem Bc{l:Option Nat}{a:Act}{ops:Array Oper}{i:Nat}{I:List Nat}{o:Oper}{L:List Oper}{K:Env→AS→Prop}{Q:Exit→Act→World→Prop}(ho:ops[i]? =some o)
    (h:AX P Γ N ops (o::L) K E s) (hr:Rel Γ N G E s a w) (hn:∀G' E' s' a' w',G.le G'→Rel Γ N G' E' s' a' w'→AX P Γ N ops L K E' s'→wpOpsIn (uD l) 0 P ops Q I a' w'):wpOpsIn (uD l) 0 P ops Q (i::I) a w:=by
  simp only[AX] at h;obtain⟨hd,h⟩:=h;simp only[wpOpsIn,ho];split at h
  · rename_i hg;rw[if_pos (eb hg)];exact Oper.vQ (vR h) hr hd (km o h hr.eval hr.st) fun G' r s' a' w' h1 h2 h3=>hn G' _ s' a' w' h1 h2 h3
  · rename_i j want hg;split at h
    · exact h.elim
    · rename_i d hj;split at h
      · rename_i t hE;have hy:=xE hr hj hE;have hw:Region.wanted o (yielded ops a.tmps)=(t==want):=(by simp[Region.wanted,hg,hy]);split at h
        · rename_i ht;rw[if_pos (by rw[hw];simpa using ht)];exact Oper.vQ (vR h) hr hd (km o h hr.eval hr.st) fun G' r s' a' w' h1 h2 h3=>hn G' _ s' a' w' h1 h2 h3
        · rename_i ht;rw[if_neg (by rw[hw];simpa using ht)];exact⟨fun _ _=>trivial,hn G _ s _ _ (.refl G) (hr.put (.refl G) hr.st (by simp[av]) hd) h⟩
      · rename_i c hE;have hy:=sS hr hj hE;have hw:Region.wanted o (yielded ops a.tmps)=false:=(by simp[Region.wanted,hg,hy]);rw[if_neg (by rw[hw];simp)];exact⟨fun _ _=>trivial,hn G _ s _ _ (.refl G) (hr.put (.refl G) hr.st (by simp[av]) hd) h⟩
      · exact h.elim
theorem iv{l:Option Nat}{ops:Array Oper}{Q:Exit→Act→World→Prop}{K:Env→AS→Prop}:∀(L:List Oper)(I J:List Nat){G:Gh}{E:Env}{s:AS}{a:Act}{w:World},I.map (ops[·]?)=L.map some→AX P Γ N ops L K E s→Rel Γ N G E s a w→
    (∀G' E' s' a' w',G.le G'→Rel Γ N G' E' s' a' w'→K E' s'→wpOpsIn (uD l) 0 P ops Q J a' w')→wpOpsIn (uD l) 0 P ops Q (I++J) a w
  |[],I,J,G,E,s,a,w,hI,h,hr,hq=>by
    have :I=[]:=(by simpa using hI);subst this;exact hq G E s a w (.refl G) hr h
  |o::L,I,J,G,E,s,a,w,hI,h,hr,hq=>by
    cases I with
    |nil=>simp at hI
    |cons i I=>
      simp only[List.map_cons,List.cons.injEq] at hI;exact Bc hI.1 h hr fun G' E' s' a' w' h1 h2 h3=>iv L I J hI.2 h3 h2 fun vF ji ic zJ wA k1 k2 k3=>hq vF ji ic zJ wA (h1.trans k1) k2 k3
theorem nT{l:Option Nat}{ops:Array Oper}{Q:Exit→Act→World→Prop}{K:Env→AS→Prop}:∀(L:List Oper)(I:List Nat){G:Gh}{E:Env}{s:AS}{a:Act}{w:World},I.map (ops[·]?)=L.map some→AX P Γ N ops L K E s→Rel Γ N G E s a w→
    (∀G' E' s' a' w',G.le G'→Rel Γ N G' E' s' a' w'→K E' s'→Q .normal a' w')→wpOpsIn (uD l) 0 P ops Q I a w
  |[],I,G,E,s,a,w,hI,h,hr,hq=>by
    have :I=[]:=(by simpa using hI);subst this;exact hq G E s a w (.refl G) hr h
  |o::L,I,G,E,s,a,w,hI,h,hr,hq=>by
    cases I with
    |nil=>simp at hI
    |cons i I=>
      simp only[List.map_cons,List.cons.injEq] at hI;exact Bc hI.1 h hr fun G' E' s' a' w' h1 h2 h3=>nT L I hI.2 h3 h2 fun vF ji ic zJ wA k1 k2 k3=>hq vF ji ic zJ wA (h1.trans k1) k2 k3
theorem lS{l:Option Nat}{id:Nat}{ops:Array Oper}{Q:Exit→Act→World→Prop}{K:Env→AS→Prop}{a:Act}(h:AY P Γ N ops ops.toList K E s)(hr:Rel Γ N G E s a w)
    (hq:∀G' E' s' a' w',G.le G'→Rel Γ N G' E' s' a' w'→K E' s'→Q .normal a' w'):(Code.region id ops false).wpIn (uD l) 0 P Q a w:=by
  rw[ay] at h;refine wpIn_region (nT ops.toList _ ?_ h hr hq);apply List.ext_getElem?;intro i;simp only[List.getElem?_map];by_cases hi:i<ops.size
  · simp[hi]
  · simp[hi]
theorem Ev{W:World}{k:Nat}{o o':Obj}(hk:W.heap[k]? =some o)(ho:∀c T f,o≠.cells c T f)(sI:∀c T f,o'≠.cells c T f)(b j:Nat):(W.putObj k o').cell? ⟨b,j,none⟩=W.cell? ⟨b,j,none⟩:=by
  by_cases e:b=k
  · subst e;have h1:=World.putObj_heap_same (w:=W) (o:=o') (Array.getElem?_eq_some_iff.1 hk).1;simp only[World.cell?,h1,hk];cases o<;>cases o'<;>first |rfl|exact absurd rfl (ho _ _ _)|exact absurd rfl (sI _ _ _)
  · exact World.cell?_of_block (World.putObj_heap_other e)
theorem zT{W:World}{k:Nat}{o o':Obj}(hk:W.heap[k]? =some o)(ho:∀c T f,o≠.cells c T f)(sI:∀c T f,o'≠.cells c T f)(b j:Nat):(W.putObj k o').frozen? ⟨b,j,none⟩=W.frozen? ⟨b,j,none⟩:=by
  by_cases e:b=k
  · subst e;have h1:=World.putObj_heap_same (w:=W) (o:=o') (Array.getElem?_eq_some_iff.1 hk).1;simp only[World.frozen?,h1,hk];cases o<;>cases o'<;>first |rfl|exact absurd rfl (ho _ _ _)|exact absurd rfl (sI _ _ _)
  · exact World.frozen?_of_block (World.putObj_heap_other e)
theorem aQ.putObj{W:World}{k:Nat}{o o':Obj}(h:aQ Γ G s W)(hk:W.heap[k]? =some o)(ho:∀c T f,o≠.cells c T f)(sI:∀c T f,o'≠.cells c T f)(hB:G.w0.heap.size≤k)(hB':G.B≤k):aQ Γ G s (W.putObj k o'):=by
  have hg:W.grownBy (W.putObj k o') (some k):=⟨rfl,rfl,rfl,by simp[World.putObj],fun i _ hi=>World.putObj_heap_other (fun e=>hi (by rw[e]))⟩;refine h.B1 (fun b j=>Ev hk ho sI b j) (fun b j _ _=>zT hk ho sI b j) (by simp[World.putObj]) ?_ ?_ ?_
  · exact(Below.refl _ _).grown hg (by have:=(Array.getElem?_eq_some_iff.1 hk).1;omega) (fun i e=>by cases e;omega)
  · intro i x hi hx;have bJ:=(Array.getElem?_eq_some_iff.1 hi).1;rw[World.putObj_heap_other (by omega)];exact h.others i x hi hx
  · intro b c T lo hi hb hc;by_cases e:b=k
    · subst e;rw[World.putObj_heap_same (Array.getElem?_eq_some_iff.1 hk).1] at hc;cases hc;exact absurd rfl (sI _ _ _)
    · rw[World.putObj_heap_other e] at hc;exact h.soft b c T lo hi hb hc
def Q7(P:Program)(Γ:Nat→List AV)(gf:FuncId)(cg:List AV)(xs:List AV):Prop:=
  ∀(S:Nat→AS)(l:Nat)(G:Gh)(W:World)(lb:List Value),G.df=[]→ar G cg lb→aQ Γ G (S 0) W→
    (∀i x G1 u W1,xs[i]? =some x→G.le G1→aQ Γ G1 (S i) W1→av G1 x u→YieldAt Fence.wide 0 P l #[u] W1 fun e W'=>e=.returned (.bool true)∧∃G2,G1.le G2∧aQ Γ G2 (S (i+1)) W')→
    CallsIn Fence.wide 0 P gf (#[.func (.yield l) #[] #[]]++lb.toArray) W fun e W'=>(∃v,e=.returned v)∧∃G2,G.le G2∧aQ Γ G2 (S xs.length) W'
theorem yd{a:Act}{g:Operand}{p:Tmp}{assign body:Code}{gf:FuncId}{cg xs:List AV}(hr:Rel Γ N G E s a w)(uK:G.df=[])(hg:aN Γ E g=.qE gf cg)(H3:ai P gf=true)(Kk:Q7 P Γ gf cg xs)
    (hp:p<N) (S:Nat→AS) (hS:S 0=s) (E1:AV→Env)
    (OG:∀(l i:Nat)(x:AV)(G1:Gh)(a1:Act)(W:World),xs[i]? =some x→Rel Γ N G1 (aB E p x) (S i) a1 W→
      assign.wpIn (uD (some l)) 0 P (fun e a' W'=>e=.normal∧∃G2,G1.le G2∧Rel Γ N G2 (E1 x) (S i) a' W') a1 W)
    (Vr:∀(l i:Nat)(x:AV)(G1:Gh)(a1:Act)(W:World),xs[i]? =some x→Rel Γ N G1 (E1 x) (S i) a1 W→
      body.wpIn (uD (some l)) 0 P (fun e a' W'=>e=.normal∧∃G2,G1.le G2∧aQ Γ G2 (S (i+1)) W') a1 W):
    (Code.rangeFunc g #[p] assign body).wpIn Fence.wide 0 P (fun e a' w'=>e=.normal∧∃D G',G.le G'∧w.heap.size≤D∧w'.heap[D]? =some (.deferred (some []))∧
      a'= {a with defers:={target:=.collected D,args:=#[]}::a.defers}∧aQ Γ G' (S xs.length) w') a w:=by
  have SJ:=hr.eval g;rw[hg] at SJ;simp only[av] at SJ;obtain⟨lb,hg',SK⟩:=SJ;have KB:G.w0.heap.size≤w.heap.size:=hr.st.below.size;have hBw:G.B≤w.heap.size:=hr.st.base;refine wpIn_rangeFunc ?_;intro fn Vs;obtain⟨rec,pI⟩:∃rec:LoopState→Option Code→Loop,rec=fun st pe=>{state:=st,pending:=pe,fn,tmps:=a.tmps,params:=#[p],assign,body,defers:=w.heap.size}:=⟨_,rfl⟩;obtain⟨W1,OH⟩:∃W1,(w.alloc (.deferred (some []))).alloc (.loop (rec .ready none))=W1:=⟨_,rfl⟩;have SN:W1.heap[w.heap.size+1]? =some (.loop (rec .ready none)):=by
    rw[←OH];have:=World.alloc_heap_new (w.alloc (.deferred (some []))) (.loop (rec .ready none));rwa [World.size_alloc] at this
  have fQ:W1.heap[w.heap.size]? =some (.deferred (some [])):=by
    rw[←OH];exact(Below.heap_alloc _ _ _ (by simp)).trans (World.alloc_heap_new w _)
  have gV:aQ Γ G s W1:=by
    rw[←OH];exact(hr.st.alloc _ (by intro c T lo hi e;cases e)).alloc _ (by intro c T lo hi e;cases e)
  refine⟨w.heap.size+1,[{target:=.collected w.heap.size,args:=#[]}],W1,{target:=.fn (.func gf) lb.toArray,args:=#[.func (.yield (w.heap.size+1)) #[] #[]]},W1,gf,
    #[.func (.yield (w.heap.size+1)) #[] #[]]++lb.toArray,W1,?_,?_,?_,?_,(fun e=>by cases e),?_⟩
  · rw[←OH,pI];exact run_enterLoop_outer _ _ _ _ _
  · simp only[resolve,hg'];simp[go_sem]
  · intro f' _;trivial
  · have:=nN (w:=W1) H3 (#[.func (.yield (w.heap.size+1)) #[] #[]]++lb.toArray);simpa[invoke,go_sem] using this
  · have hsW:aQ Γ (G.setW W1) s W1:=gV.setW;refine(Kk S (w.heap.size+1) (G.setW W1) W1 lb uK (ar.sub (G.gA W1) _ _ SK) (hS ▸ hsW) ?_).mono ?_
    · rintro i x G1 u W hx hle h2 hu;have H4:G1.w0=W1:=hle.w0;have SP:G1.B=G.B:=hle.B;have Jq:dn W1 W:=(by have:=h2.others;rwa [H4] at this);have hl:=Jq _ _ SN (by intros;simp);have hk:=Jq _ _ fQ (by intros;simp);have hbW:Below G.B W1 W:=(by have:=h2.below;rwa [H4,SP] at this);obtain⟨q1,q2⟩:=gV.sK hle h2;have bJ:w.heap.size+1<W.heap.size:=(Array.getElem?_eq_some_iff.1 hl).1;have hy:=run_yield (P:=P) (args:=#[u]) hl (by rw[pI];rfl);rw[pI] at hy;refine⟨fn,_,assign,body,hy,roundIn_of_wpIn Vs ?_⟩;have KW:Rel Γ N ((G1.setW G.w0).setW W) (aB E p x) (S i) {tmps:=((#[p]:Array Tmp).zip #[u]).foldl (fun t(p,v)=>t.setIfInBounds p v) a.tmps,defers:=[]} W:=by
        have e3:((#[p]:Array Tmp).zip #[u]).foldl (fun t(p,v)=>t.setIfInBounds p v) a.tmps=a.tmps.setIfInBounds p u:=(by simp);rw[e3];refine⟨q1.setW,by simp[hr.size],fun k=>?_,by rw[show((G1.setW G.w0).setW W).df=G1.df from rfl,hle.df];exact uK.symm⟩;refine av.sub (G:=G1.setW G.w0) (Gh.gA _ _) _ _ ?_;simp only[aB];split
        · rename_i e;subst e;have :k<a.tmps.size:=(by rw[hr.size];exact hp);simpa[Array.getD,this] using av.sub (G1.gA G.w0) _ _ hu
        · rename_i e;have:=av.mono q2 _ _ (hr.tmps k);simp only[Array.getD_eq_getD_getElem?] at this⊢;rw[Array.getElem?_setIfInBounds_ne (by omega)];exact this
      refine wpIn_mono (OG (w.heap.size+1) i x _ _ W hx KW) ?_;rintro e a1 Wa ⟨rfl,Ga,zU,Jr⟩;have SQ:dn W Wa:=by
        have:=Jr.st.others;rwa [show Ga.w0=W from zU.w0] at this
      have Q8:Below G.B W Wa:=by
        have:=Jr.st.below;rwa [show Ga.w0=W from zU.w0,show Ga.B=G.B from zU.B.trans SP] at this
      have SR:=SQ _ _ hl (by intros;simp);have xbZ:=SQ _ _ hk (by intros;simp);obtain⟨gb1,gb2⟩:=q1.sK zU Jr.st;refine⟨_,run_beginRound SR (by rw[pI]),?_⟩;have KX:w.heap.size+1<Wa.heap.size:=(Array.getElem?_eq_some_iff.1 SR).1;obtain⟨W2,KY⟩:∃W2,Wa.putObj (w.heap.size+1) (.loop {rec .ready none with state:=.busy})=W2:=⟨_,rfl⟩;have DS:W2.heap[w.heap.size+1]? =some (.loop {rec .ready none with state:=.busy}):=(by rw[←KY];exact World.putObj_heap_same KX);have UG:Ga.B=G.B:=zU.B.trans SP;have nU:aQ Γ (Ga.setW G.w0) (S i) W2:=by
        rw[←KY];exact gb1.putObj SR (by intros;simp) (by intros;simp) (by show G.w0.heap.size≤_;omega) (by show Ga.B≤_;omega)
      rw[KY];have xI:Rel Γ N ((Ga.setW G.w0).setW W2) (E1 x) (S i) a1 W2:=
        ⟨nU.setW,Jr.size,fun k=>av.sub (G:=Ga) (G':=(Ga.setW G.w0).setW W2) ⟨rfl,rfl,rfl,rfl⟩ _ _ (Jr.tmps k),Jr.defers⟩
      refine wpIn_mono (Vr (w.heap.size+1) i x _ _ W2 hx xI) ?_;rintro e a3 W3 ⟨rfl,G2,g1,g2⟩;have Q9:G2.w0=W2:=g1.w0;have Vt:G2.B=G.B:=g1.B.trans UG;have Kh:dn W2 W3:=by
        have:=g2.others;rwa [Q9] at this
      have UH:Below G.B W2 W3:=by
        have:=g2.below;rwa [Q9,Vt] at this
      have Jb:=Kh _ _ DS (by intros;simp);obtain⟨g3,g4⟩:=nU.sK g1 g2;have re:(Instr.endRound (w.heap.size+1) none).run P W3=.ok (.bool true) (W3.putObj (w.heap.size+1) (.loop (rec .ready none))):=by
        have:=run_endRound (P:=P) none Jb;rw[pI] at this⊢;exact this
      have uL:w.heap.size+1<W3.heap.size:=(Array.getElem?_eq_some_iff.1 Jb).1;have NX:=g3.putObj (o':=.loop (rec .ready none)) Jb (by intros;simp) (by intros;simp) (by show G.w0.heap.size≤_;omega) (by show G2.B≤_;omega);have Vu:∀(V:World)(o:Obj),w.heap.size+1<V.heap.size→Below G.B V (V.putObj (w.heap.size+1) o):=fun V o hV=>
        (Below.refl _ _).grown (row:=some (w.heap.size+1)) ⟨rfl,rfl,rfl,by simp[World.putObj],fun i _ hi=>World.putObj_heap_other (fun e=>hi (by rw[e]))⟩ (by omega) (fun i e=>by cases e;omega)
      refine⟨_,_,re,rfl,G2.setW W1,?_,?_⟩
      · exact⟨fun b j v hv=>g1.ro b j v (zU.ro b j v hv),fun o b hb=>g1.obj o b (zU.obj o b hb),fun t e r ht=>g1.tok t e r (zU.tok t e r ht),g1.B.trans zU.B,H4.symm,g1.df.trans zU.df⟩
      · refine NX.sub (G:=G2.setW G.w0) (G':=G2.setW W1) ⟨rfl,rfl,rfl,rfl⟩ rfl rfl ?_ ?_
        · show Below G2.B W1 _;rw[Vt];refine(hbW.trans Q8).trans (Below.trans ?_ (UH.trans (Vu _ _ uL)));rw[←KY];exact Vu _ _ KX
        · intro k o KZ vz;replace KZ:W1.heap[k]? =some o:=KZ;by_cases e:k=w.heap.size+1
          · subst e;rw[SN] at KZ;cases KZ;exact World.putObj_heap_same uL
          · rw[World.putObj_heap_other e];refine Kh k o ?_ vz;rw[←KY,World.putObj_heap_other e];exact SQ k o (Jq k o KZ vz) vz
    · rintro e W2 ⟨⟨v,rfl⟩,G2,h1,h2⟩;have H4:G2.w0=W1:=h1.w0;have Jq:dn W1 W2:=(by have:=h2.others;rwa [H4] at this);have hl:=Jq _ _ SN (by intros;simp);have hk:=Jq _ _ fQ (by intros;simp);obtain⟨q1,q2⟩:=gV.sK h1 h2;refine⟨none,_,by have:=run_endLoop (P:=P) hl (by rw[pI];simp);rw[pI] at this;exact this,rfl,w.heap.size,G2.setW G.w0,q2,Nat.le_refl _,(World.putObj_heap_other (by omega)).trans hk,rfl,?_⟩;rw[pI] at hl;exact q1.putObj hl (by intros;simp) (by intros;simp) (by show G.w0.heap.size≤_;omega) (by rw[show(G2.setW G.w0).B=G2.B from rfl,h1.B];show G.B≤_;omega)
theorem oF{f:FuncId}{fn:Func}{c:Code}{args:List AV}{ca:AV→AS→Prop}{s:AS}(hf:P.funcs[f]? =some fn)(hb:fn.body=some c)(hn:args.length≤fn.ntmps)
    (h:∀G a w,G.df=[]→Rel Γ fn.ntmps G (bx args) s a w→c.wpIn Fence.wide 0 P (fun e a' w'=>(e=.normal∨e=.ret)∧∃D G' E' s',G.le G'∧(G.w0.heap.size≤D∧G.B≤D)∧w'.heap[D]? =some (.deferred (some []))∧
      a'.defers=[{target:=.collected D,args:=#[]}]∧Rel Γ fn.ntmps (G'.cO a'.defers) E' s' a' w'∧bz P fn.results.toList ca E' s') a w):aj P Γ f args s ca:=by
  intro G w vs hs hv;have QW:=hv.length;refine(callsIn_wide (n:=0)).1 (callsIn_of_wp_marks hf hb trivial ?_);have xI:Rel Γ fn.ntmps (G.cO []) (bx args) s {tmps:=vs.toArray++Array.replicate (fn.ntmps-vs.toArray.size) undef,defers:=[]} w:=by
    refine⟨hs.cO,by simp;omega,fun i=>?_,rfl⟩;simp only[bx];by_cases hi:i<args.length
    · obtain⟨u,h1,h2⟩:=hv.getD i hi;have aY:i<vs.length:=(by omega);rw[Array.getD_eq_getD_getElem?,Array.getElem?_append_left (by simpa using aY)];simp only[List.getElem?_toArray,h1,Option.getD_some];exact av.cO _ _ h2
    · have e1:args.getD i (.v undef)=.v undef:=(by simp[List.getD,List.getElem?_eq_none (Nat.le_of_not_lt hi)]);rw[e1,Array.getD_eq_getD_getElem?,Array.getElem?_append_right (by simp;omega)];simp only[av];cases hh:(Array.replicate (fn.ntmps-vs.toArray.size) undef)[i-vs.toArray.size]? with
      |none=>rfl
      |some u=>
        rw[Array.getElem?_replicate] at hh;split at hh
        · cases hh;rfl
        · cases hh
  refine wpIn_mono (h _ _ w rfl xI) ?_;rintro e a' w' ⟨he,D,G',E',s',h1,hD,hk,uK,h2,h3⟩;have KB:G'.w0.heap.size≤D:=by
    rw[h1.w0];exact hD.1
  have hB:G'.B≤D:=by
    rw[h1.B];exact hD.2
  have fin:LeavesInM Fence.wide 0 P fn a'.tmps (fun e w'=>∃G' r v s',e=.returned v∧G.le G'∧aQ Γ G' s' w'∧av G' r v∧ca r s') a'.defers .returning w':=by
    rw[uK];refine⟨by simp,.inl ⟨D,_,rfl,run_takeDeferred hk,?_⟩⟩;have h4:Rel Γ fn.ntmps (G'.cO a'.defers) E' s' a' (w'.putObj D (.deferred none)):=⟨h2.st.putObj hk (by intros;simp) (by intros;simp) KB hB,h2.size,h2.tmps,h2.defers⟩;unfold bz at h3;split at h3
    · rename_i NU FV;obtain⟨r,s2,q1,q2,q3⟩:=h3;obtain⟨zs,r1,r2⟩:=qm h4 FV;refine⟨if h:zs.toArray.size=1 then zs.toArray[0] else .tuple zs.toArray,?_,G'.cO G.df,r,_,s2,rfl,Gh.xr h1,(h4.st.mono q2).cO (d:=G.df),av.cO (G:=G'.cO a'.defers) (d:=G.df) _ _ (q1 _ _ (rL r2)),q3⟩;rw[lO,Array.mapM_eq_mapM_toList];simp only[Sem.run_bind,Sem.run_map,r1,Result.andThen_ok,Sem.run_pure]
    · exact h3.elim
  rcases he with rfl|rfl
  · exact fin
  · exact fin
theorem ct.wide{c:Code}{Q:Exit→Env→AS→Prop}{a:Act}(h:ct P Γ N c Q E s)(hr:Rel Γ N G E s a w){R:Exit→Act→World→Prop}
    (hq:∀e G' E' s' a' w',G.le G'→Rel Γ N G' E' s' a' w'→Q e E' s'→R e a' w'):c.wpIn Fence.wide 0 P R a w:=
  wpIn_mono (F:=uD none) (n:=0) (h G a w hr) fun e a' w' ⟨G',E',s',h1,h2,h3,_⟩=>hq e G' E' s' a' w' h1 h2 h3
theorem ct.behind{c:Code}{Q:Exit→Env→AS→Prop}{a:Act}{G':Gh}{D:Nat}{s':AS}{w':World}(hr:Rel Γ N G E s a w)(hle:G.le G')(hk:w'.heap[D]? =some (.deferred (some [])))(hs:aQ Γ G' s' w')(uK:G.df=[])
    (h:ct P Γ N c Q E s') {R:Exit→Act→World→Prop}
    (hq:∀e vF ji ic zJ wA,G.le vF→wA.heap[D]? =some (.deferred (some []))→zJ.defers=[{target:=.collected D,args:=#[]}]→Rel Γ N (vF.cO zJ.defers) ji ic zJ wA→Q e ji ic→R e zJ wA):
    c.wpIn Fence.wide 0 P R {a with defers:={target:=.collected D,args:=#[]}::a.defers} w':=by
  have ha:a.defers=[]:=hr.defers.trans uK;have xI:Rel Γ N ((G'.cO [{target:=.collected D,args:=#[]}]).setW w') E s' {a with defers:={target:=.collected D,args:=#[]}::a.defers} w':=
    ⟨(hs.cO).setW,hr.size,fun i=>av.sub (Gh.gA _ _) _ _ (av.cO _ _ (av.mono hle _ _ (hr.tmps i))),by rw[ha];rfl⟩
  refine h.wide xI ?_;intro e G2 E2 s2 a2 w2 g1 g2 g3;have Kh:dn w' w2:=by
    have:=g2.st.others;rwa [show G2.w0=w' from g1.w0] at this
  have Kl:a2.defers=[{target:=.collected D,args:=#[]}]:=g2.defers.trans g1.df;have hb:=aQ.sK (G:=G'.cO [{target:=.collected D,args:=#[]}]) hs.cO g1 g2.st;refine hq e (((G2.setW G'.w0)).cO G'.df) E2 s2 a2 w2 ?_ (Kh _ _ hk (by intros;simp)) Kl ?_ g3
  · refine hle.trans ?_;exact⟨hb.2.ro,hb.2.obj,hb.2.tok,hb.2.B,hb.2.w0,rfl⟩
  · refine⟨?_,g2.size,fun i=>?_,rfl⟩
    · exact hb.1.cO (d:=a2.defers)
    · exact av.sub (G:=G2) (G':=((G2.setW G'.w0).cO G'.df).cO a2.defers) ⟨rfl,rfl,rfl,rfl⟩ _ _ (g2.tmps i)
end Go.AM
namespace Go.AM
open Go Go.RowKit
variable{rd:Option Nat}{P:Program}{Γ:Nat→List AV}{G:Gh}{s:AS}{w:World}
theorem wG{n:Nat}{T xT e:TypeId}(hT:P.underlying T=some (.slice e)){k:IntKind}(hx:P.underlying xT=some (.int k)){z:List AV}(he:pt P e z)
    (h0:n≠0) (bT:n*P.bytesOf e≤2^46) (B6:n≤2^46) (ty:TypeId):
    ∃(cap:Nat)(us:List Value),n≤cap∧us.length=cap*P.cellsOf e∧
      (Builtin.append_ #[T,xT] ty #[.slice none 0 0,.int .i64 n]).run P w=.ok (.slice (some ⟨w.heap.size,0,none⟩) n cap) (w.drew.alloc (.cells us.toArray e)):=by
  obtain⟨hz,fa,sQ⟩:=he;obtain⟨zv,Ki,xx⟩:=dD hz;obtain⟨i,hi⟩:=eZ fa;have hb:P.bytesOf e=i.bytes:=(by simp[Program.bytesOf,hi]);have HP:∀w',(typeInfo e).run P w'=.ok i w':=(fun w'=>by simp[typeInfo,hi]);have uC:=nextslicecap_le (need:=n) (old:=0) (by omega);have nM:¬(2^48<Builtin.nextslicecap n 0*i.bytes):=by
    rw[hb] at bT;have h2:Builtin.nextslicecap n 0*i.bytes≤2*n*i.bytes:=Nat.mul_le_mul_right _ uC;rw[Nat.mul_assoc] at h2;omega
  have Vv:zv.cells.size=P.cellsOf e:=by
    rw[xx] at sQ;simpa using sQ
  have hw:IntKind.i64.wrap (n:Int)=n:=IntWalk.i64_in _ (by omega);have zG:¬((n:Int)<0):=(by omega);have cY:¬(n*P.cellsOf e=0):=by
    intro h;rcases Nat.mul_eq_zero.1 h with h|h
    · exact h0 h
    · exact fa h
  have Jd:¬((281474976710656:Int)<(n:Int)*(i.bytes:Int)):=by
    rw[hb] at bT;have :((n*i.bytes:Nat):Int)≤((2^46:Nat):Int):=Int.ofNat_le.2 bT;rw[Int.natCast_mul] at this;omega
  have nL:¬(9223372036854775807<(n:Int)):=(by omega);refine⟨_,(Builtin.zeroCells zv.cells n++Builtin.zeroCells zv.cells ((Question.appendCap n 0 e).cut (w.tape w.drawn (.appendCap n 0 e))-n)).toList,fb n 0 e (w.tape w.drawn (.appendCap n 0 e)),?_,?_⟩
  · have:=fb n 0 e (w.tape w.drawn (.appendCap n 0 e));simp only[Builtin.zeroCells,Array.toList_append,List.length_append,Array.length_toList,Vv];simp[Vv];rw[←Nat.add_mul];congr 1;omega
  · have hf:(Question.appendCap n 0 e).forced=false:=rfl;have hgt:¬(n≤0):=(by omega);simp[Builtin.append_,run_underlying hT,aS fa,run_underlying hx,asInt,asIntOf,hw,zG,HP,Jd,nL,nM,hf,Ki,newRow,cY,h0,Builtin.firstCells];congr 2;apply Array.ext';simp
theorem Cl{N:Nat}{E:Env}{Q:Exit→Env→AS→Prop}{id:Nat}(L1 L2 L3:List Oper){oa os:Oper}{T xT e ty:TypeId}{k:IntKind}{x y h:Operand}{d1 d2:Tmp}{z:List AV}
    (hoa:oa.op=.call {callee:=.builtin .append,args:=#[x,y],argTypes:=#[T,xT]}) (Vw:oa.guard=none) (Vx:oa.dst=some d1) (NY:d1<N)
    (hos:os.op=.slice ty (.tmp d1) none (some h) none) (hgs:os.guard=none) (QY:os.dst=some d2) (Kl:d2<N)
    (hT:P.underlying T=some (.slice e)) (hty:P.underlying ty=some (.slice e)) (hx:P.underlying xT=some (.int k)) (he:pt P e z) (xc:P.cellsOf e=1)
    (hh:AY P Γ N (L1++oa::(L2++os::L3)).toArray L1 (fun E1 s1=>aN Γ E1 x=.v (.slice none 0 0)∧∃n:Nat,aN Γ E1 y=.v (.int .i64 n)∧n≠0∧n*P.bytesOf e≤2^46∧n≤2^46∧
      ∀t v,s1.own t=none→AY P Γ N (L1++oa::(L2++os::L3)).toArray L2 (fun E2 s2=>E2 d1=.v v∧aN Γ E2 h=.v (.int .i64 0)∧
        AY P Γ N (L1++oa::(L2++os::L3)).toArray L3 (fun E' s'=>Q .normal E' s') (aB E2 d2 (.sl 1 0 [] (.own t 0))) s2) (aB E1 d1 (.v v)) (s1.bA t 0)) E s):
    ct P Γ N (.region id (L1++oa::(L2++os::L3)).toArray false) Q E s:=by
  generalize xb3:(L1++oa::(L2++os::L3)).toArray=ops at hh⊢;rw[ay] at hh;intro G a w hr;refine wpIn_region ?_;have bS:∀ops:Array Oper,(List.range ops.size).map (ops[·]?)=ops.toList.map some:=by
    intro ops;apply List.ext_getElem?;intro i;simp only[List.getElem?_map];by_cases hi:i<ops.size
    · simp[hi]
    · simp[hi]
  have pH:=bS ops;generalize hI:List.range ops.size=I at pH;have ib:ops.toList=L1++oa::(L2++os::L3):=(by rw[←xb3]);rw[ib] at pH;have K9:∀(I:List Nat)(A:List Oper)(o:Oper)(B:List Oper),I.map (ops[·]?)=(A++o::B).map some→∃I1 i I2,I=I1++i::I2∧I1.map (ops[·]?)=A.map some∧ops[i]? =some o∧I2.map (ops[·]?)=B.map some:=by
    intro I A o B hm;have h1:(I.take A.length).map (ops[·]?)=A.map some:=(by rw[List.map_take,hm];simp);have h2:(I.drop A.length).map (ops[·]?)=(o::B).map some:=(by rw[List.map_drop,hm];simp);generalize Vy:I.drop A.length=J at h2;cases J with
    |nil=>simp at h2
    |cons i I2=>
      simp only[List.map_cons,List.cons.injEq] at h2;exact⟨I.take A.length,i,I2,by rw[←Vy,List.take_append_drop],h1,h2.1,h2.2⟩
  obtain⟨I1,i1,J,rfl,m1,mo1,mJ⟩:=K9 I L1 oa (L2++os::L3) pH;obtain⟨I2,i2,I3,rfl,m2,mo2,m3⟩:=K9 J L2 os L3 mJ;refine dX L1 I1 (i1::(I2++i2::I3)) m1 (dI _ hh) hr ?_;rintro G1 E1 s1 a1 w1 gy qZ ⟨⟨hxe,n,hye,UI,hnb,xb4,hk⟩,Cj⟩;rw[wpOpsIn_cons];simp only[wpOpIn,mo1];rw[if_pos (eb Vw)];have ph:=qZ.eval x;rw[hxe] at ph;have wz:=qZ.eval y;rw[hye] at wz;simp only[av] at ph wz;obtain⟨cap,us,gB,la,lH⟩:=wG (P:=P) (w:=w1) hT hx he UI hnb xb4 oa.type;have hto:s1.own G1.nt=none:=qZ.st.gR (Nat.le_refl _);obtain⟨G2,g1,g2,g3,g4,g5,g6⟩:=qZ.st.drew.pq [] us e G1.nt 0 (fun e' _=>qZ.st.cb _ (Nat.le_refl _) e');simp only[List.nil_append,List.length_nil] at g2 g4;rw[la,xc,Nat.mul_one] at g4;have hk:=hk G1.nt (.slice (some ⟨w1.heap.size,0,none⟩) n cap) hto;have Vz:(execOp a1.eval oa).run P w1=.ok (.value (.slice (some ⟨w1.heap.size,0,none⟩) n cap)) (w1.drew.alloc (.cells us.toArray e)):=by
    rw[c7 hoa];simp[builtin,ph,wz,lH]
  refine⟨fun _ _=>trivial,?_⟩;rw[Oper.semAt_eq _ _ _ (Vk Vz)];rw[Vz];simp only[Oper.uponIn];have mR:=qZ.put (dst:=oa.dst) g1 g2 (r:=.v (.slice (some ⟨w1.heap.size,0,none⟩) n cap)) (v:=.slice (some ⟨w1.heap.size,0,none⟩) n cap) (by simp[av]) (by intro d hd;rw[Vx] at hd;cases hd;exact NY);rw[Vx] at mR⊢;simp only[bw] at mR;refine dX L2 I2 (i2::I3) m2 (dI _ hk) mR ?_;rintro G3 E3 s3 a3 w3 Q6 re ⟨⟨hd,hhe,VA⟩,SS⟩;rw[wpOpsIn_cons];simp only[wpOpIn,mo2];rw[if_pos (eb hgs)];have NZ:=re.tmps d1;rw[hd] at NZ;have hhr:=re.eval h;rw[hhe] at hhr;simp only[av] at NZ hhr;have hb:=cU (P:=P) (isSlice:=true) (len:=n) (cap:=cap) (l:=0) (h:=0) (lo:=none) (hi:=some (.int .i64 0)) (.inl ⟨rfl,rfl⟩) (.inr ⟨_,rfl⟩) (Int.le_refl 0) (Int.le_refl 0) (by omega) w3;have FW:P.cellsOf e≠0:=he.2.1;have VB:(Instr.sliceAt ty (.slice (some ⟨w1.heap.size,0,none⟩) n cap) none (some (.int .i64 0)) none).run P w3=.ok (.slice (some ⟨w1.heap.size,0,none⟩) 0 cap) w3:=by
    rw[fc hty];simp[Instr.slice,run_underlying hty,hb,aS FW,Addr.add]
  have hex:(execOp a3.eval os).run P w3=.ok (.value (.slice (some ⟨w1.heap.size,0,none⟩) 0 cap)) w3:=by
    obtain⟨dst,op,type,pos,after,guard⟩:=os;simp only at hos;subst hos;have e1:a3.eval (.tmp d1)=.slice (some ⟨w1.heap.size,0,none⟩) n cap:=NZ;simp[execOp,e1,hhr,VB]
  refine⟨fun _ _=>trivial,?_⟩;rw[Oper.semAt_eq _ _ _ (Vk hex)];rw[hex];simp only[Oper.uponIn];have Dx:=re.put (dst:=os.dst) (Gh.le.refl G3) re.st (r:=.sl 1 0 [] (.own G1.nt 0)) (v:=.slice (some ⟨w1.heap.size,0,none⟩) 0 cap) (by
    simp only[av];refine .inl ⟨w1.heap.size,0,cap,[],rfl,by simp,by omega,by simp[ar],fun j u hj=>by simp at hj,?_⟩;simp only[eC,Nat.zero_mul,Nat.add_zero,Nat.zero_add,Nat.mul_one];have:=Q6.tok _ _ _ g4;simpa using this) (by intro d Vp;rw[QY] at Vp;cases Vp;exact Kl)
  rw[QY] at Dx⊢;simp only[bw] at Dx;refine lK L3 I3 m3 (dI _ VA) Dx ?_;rintro G5 E5 s5 a5 w5 hG5 OI ⟨hk5,xb6⟩;refine⟨G5,E5,s5,gy.trans (g1.trans (Q6.trans hG5)),OI,hk5,?_⟩;intro i hi;have mem:∀L:List Oper,i∈cC L↔∃o∈L,o.dst=some i:=(fun L=>by simp[cC,List.mem_filterMap]);simp only[writes] at hi;rw[ib] at hi;have aY:¬∃o'∈L1++oa::(L2++os::L3),o'.dst=some i:=fun hm=>hi ((mem _).2 hm);have q1:i∉cC L1:=fun hm=>aY (by obtain⟨o,k1,k2⟩:=(mem _).1 hm;exact⟨o,by simp[k1],k2⟩);have q2:i∉cC L2:=fun hm=>aY (by obtain⟨o,k1,k2⟩:=(mem _).1 hm;exact⟨o,by simp[k1],k2⟩);have q3:i∉cC L3:=fun hm=>aY (by obtain⟨o,k1,k2⟩:=(mem _).1 hm;exact⟨o,by simp[k1],k2⟩);have q4:i≠d1:=fun e=>aY ⟨oa,by simp,by rw[e];exact Vx⟩;have q5:i≠d2:=fun e=>aY ⟨os,by simp,by rw[e];exact QY⟩;rw[xb6 i q3,gQ _ _ q5,SS i q2,gQ _ _ q4,Cj i q1]
theorem ye{N:Nat}{E:Env}{Q:Exit→Env→AS→Prop}{id:Nat}{o1 o2 o3 o4 o5 oa o7 o8 os rf:Oper}{T xT e ty:TypeId}{k:IntKind}{x y h:Operand}{d1 d2:Tmp}{z:List AV}
    (hoa:oa.op=.call {callee:=.builtin .append,args:=#[x,y],argTypes:=#[T,xT]}) (Vw:oa.guard=none) (Vx:oa.dst=some d1) (NY:d1<N)
    (hos:os.op=.slice ty (.tmp d1) none (some h) none) (hgs:os.guard=none) (QY:os.dst=some d2) (Kl:d2<N)
    (hT:P.underlying T=some (.slice e)) (hty:P.underlying ty=some (.slice e)) (hx:P.underlying xT=some (.int k)) (he:pt P e z) (xc:P.cellsOf e=1)
    (hh:∀ops:Array Oper,AY P Γ N ops [o1,o2,o3,o4,o5] (fun E1 s1=>aN Γ E1 x=.v (.slice none 0 0)∧∃n:Nat,aN Γ E1 y=.v (.int .i64 n)∧n≠0∧n*P.bytesOf e≤2^46∧n≤2^46∧
      ∀t v,s1.own t=none→AY P Γ N ops [o7,o8] (fun E2 s2=>E2 d1=.v v∧aN Γ E2 h=.v (.int .i64 0)∧
        AY P Γ N ops [rf] (fun E' s'=>Q .normal E' s') (aB E2 d2 (.sl 1 0 [] (.own t 0))) s2) (aB E1 d1 (.v v)) (s1.bA t 0)) E s):
    ct P Γ N (.region id #[o1,o2,o3,o4,o5,oa,o7,o8,os,rf] false) Q E s:=
  Cl [o1,o2,o3,o4,o5] [o7,o8] [rf] hoa Vw Vx NY hos hgs QY Kl hT hty hx he xc (hh _)
def dS(s:AS)(l:List UInt8)(r:AV)(s':AS):Prop:=
  s.le s'∧((l=[]∧r=.v (.slice none 0 0))∨∃t e,s.own t=none∧s'.own t=some e∧r=.sl 1 l.length (l.map ae) (.own t e))
theorem dS.nil(s:AS):dS s [] (.v (.slice none 0 0)) s:=⟨AS.le.refl s,.inl ⟨rfl,rfl⟩⟩
theorem dS.aE{s s':AS}{l:List UInt8}{r:AV}(h:dS s l r s'):r.aE (al l .any):=by
  rcases h.2 with⟨rfl,rfl⟩|⟨t,e,_,_,rfl⟩
  · exact AV.aM
  · exact AV.bN
theorem zV(l:List UInt8):(l.map ae).all AV.one=true:=by
  rw[List.all_eq_true];intro x hx;obtain⟨n,_,rfl⟩:=List.mem_map.1 hx;rfl
theorem dk{e:TypeId}{K:AV→AS→Prop}{s s1:AS}{l ds:List UInt8}{r:AV}{m:Nat}{cs:List AV}(h:dS s l r s1)(hm:m=ds.length)(FW:cs=ds.map ae)(he:P.cellsOf e=1)(hb:P.bytesOf e=1)(hlen:l.length+ds.length≤2^45)
    (hk:∀r2 s2,dS s (l++ds) r2 s2→K r2 s2):fS P e r m cs s1 K:=by
  subst hm FW;rcases h.2 with⟨rfl,rfl⟩|⟨t,g,h1,h2,rfl⟩
  · rw[pC];split
    · rename_i h0;have :ds=[]:=List.eq_nil_of_length_eq_zero h0;subst this;exact hk _ _ h
    · rename_i h0;rw[he,hb];simp only[List.length_nil,Nat.zero_add] at hlen;refine⟨by omega,by omega,fun t ht=>hk _ _ ?_⟩;refine⟨AS.bn h.1 ?_ 0,.inr ⟨t,0,?_,AS.j0 _ _ _,by simp⟩⟩;all_goals
        cases hs:s.own t with
        |none=>rfl
        |some g=>rw[h.1.own t g hs] at ht;cases ht
  · rw[pD];split
    · rename_i h0;have :ds=[]:=List.eq_nil_of_length_eq_zero h0;subst this;exact hk _ _ (by simpa using h)
    · rename_i h0;rw[he,hb];refine⟨rfl,by omega,by omega,zV ds,h2,hk _ _ ?_⟩;exact⟨AS.bn h.1 h1 _,.inr ⟨t,g+1,h1,AS.j0 _ _ _,by simp⟩⟩
end Go.AM
namespace Go.AM
open Go Go.RowKit
variable{P:Program}{Γ:Nat→List AV}{G:Gh}{s:AS}{w:World}{N:Nat}{E:Env}
theorem Cm{ρ:Operand→Value}{o:Oper}{f x:Operand}{ts:Array TypeId}{l:Nat}(ho:o.op=.call {callee:=.value f,args:=#[x],argTypes:=ts})(hf:ρ f=.func (.yield l) #[] #[]):
    (execOp ρ o).run P w=(Instr.yield l #[ρ x]).run P w:=by
  obtain⟨dst,op,type,pos,after,guard⟩:=o;simp only at ho;subst ho;simp[execOp,resolve,hf,Deferred.ofValue,invoke]
theorem Bd(ops:Array Oper):(List.range ops.size).map (ops[·]?)=ops.toList.map some:=by
  apply List.ext_getElem?;intro i;simp only[List.getElem?_map];by_cases hi:i<ops.size
  · simp[hi]
  · simp[hi]
theorem Be{ops:Array Oper}{I:List Nat}{A B:List Oper}{o:Oper}(hm:I.map (ops[·]?)=(A++o::B).map some):∃I1 i I2,I=I1++i::I2∧I1.map (ops[·]?)=A.map some∧ops[i]? =some o∧I2.map (ops[·]?)=B.map some:=by
  have h1:(I.take A.length).map (ops[·]?)=A.map some:=(by rw[List.map_take,hm];simp);have h2:(I.drop A.length).map (ops[·]?)=(o::B).map some:=(by rw[List.map_drop,hm];simp);generalize Vy:I.drop A.length=J at h2;cases J with
  |nil=>simp at h2
  |cons i I2=>
    simp only[List.map_cons,List.cons.injEq] at h2;exact⟨I.take A.length,i,I2,by rw[←Vy,List.take_append_drop],h1,h2.1,h2.2⟩
theorem yf{l id:Nat}(L1 L2:List Oper){o:Oper}{f x:Operand}{ts:Array TypeId}{a:Act}{Q:Exit→Act→World→Prop}{K1:Env→AS→Prop}{K2:Env→AS→Prop}
    (ho:o.op=.call {callee:=.value f,args:=#[x],argTypes:=ts}) (hg:o.guard=none) (hd:∀d,o.dst=some d→d<N)
    (h1:AY P Γ N (L1++o::L2).toArray L1 (fun E1 s1=>aN Γ E1 f=.v (.func (.yield l) #[] #[])∧K1 E1 s1) E s) (hr:Rel Γ N G E s a w)
    (hy:∀G1 E1 s1 a1 w1,G.le G1→Rel Γ N G1 E1 s1 a1 w1→K1 E1 s1→YieldAt Fence.wide 0 P l #[a1.eval x] w1 fun e W'=>e=.returned (.bool true)∧∃G2 s2,G1.le G2∧aQ Γ G2 s2 W'∧
      AY P Γ N (L1++o::L2).toArray L2 K2 (bw E1 o.dst (.v (.bool true))) s2)
    (hq:∀G' E' s' a' w',G.le G'→Rel Γ N G' E' s' a' w'→K2 E' s'→Q .normal a' w'):(Code.region id (L1++o::L2).toArray false).wpIn Fence.wide 0 P Q a w:=by
  rw[ay] at h1;refine wpIn_region ?_;have pH:=Bd (L1++o::L2).toArray;generalize List.range (L1++o::L2).toArray.size=I at pH⊢;obtain⟨I1,i,I2,rfl,m1,mo,m2⟩:=Be (A:=L1) (B:=L2) (o:=o) pH;refine iv (l:=none) L1 I1 (i::I2) m1 h1 hr ?_;rintro G1 E1 s1 a1 w1 gy qZ ⟨hf,Dy⟩;have Js:=qZ.eval f;rw[hf] at Js;simp only[av] at Js;obtain⟨fn,tmps,assign,body,q1,q2⟩:=hy G1 E1 s1 a1 w1 gy qZ Dy;simp only[wpOpsIn,mo];rw[if_pos (eb hg)];refine⟨fun _ _=>trivial,?_⟩;rw[Oper.semAt_eq _ _ _ (by intro c;rw[ho];simp),Cm ho Js,q1];rw[Oper.uponIn_round];refine⟨fun e=>(by cases e),RoundIn.mono (F:=Fence.wide) q2 ?_⟩;rintro e W' ⟨rfl,G2,s2,g1,g2,g3⟩;rw[ay] at g3;have mR:Rel Γ N G2 E1 s2 a1 W':=⟨g2,qZ.size,fun i=>av.mono g1 _ _ (qZ.tmps i),qZ.defers.trans g1.df.symm⟩;have re:=mR.put (dst:=o.dst) (Gh.le.refl G2) g2 (r:=.v (.bool true)) (v:=.bool true) (by simp[av]) hd;exact nT (l:=none) L2 I2 m2 g3 re fun G3 E3 s3 a3 w3 h3 re hk=>hq G3 E3 s3 a3 w3 (gy.trans (g1.trans h3)) re hk
theorem uM{l id:Nat}{o1 o2 o3 o4 o5 o6 o7 o8 o9 rf o yg:Oper}{f x:Operand}{ts:Array TypeId}{a:Act}{Q:Exit→Act→World→Prop}(K1 K2:Env→AS→Prop)
    (ho:o.op=.call {callee:=.value f,args:=#[x],argTypes:=ts}) (hg:o.guard=none) (hd:∀d,o.dst=some d→d<N)
    (h1:∀ops,AY P Γ N ops [o1,o2,o3,o4,o5,o6,o7,o8,o9,rf] (fun E1 s1=>aN Γ E1 f=.v (.func (.yield l) #[] #[])∧K1 E1 s1) E s) (hr:Rel Γ N G E s a w)
    (hy:∀ops G1 E1 s1 a1 w1,G.le G1→Rel Γ N G1 E1 s1 a1 w1→K1 E1 s1→YieldAt Fence.wide 0 P l #[a1.eval x] w1 fun e W'=>e=.returned (.bool true)∧∃G2 s2,G1.le G2∧aQ Γ G2 s2 W'∧
      AY P Γ N ops [yg] K2 (bw E1 o.dst (.v (.bool true))) s2)
    (hq:∀G' E' s' a' w',G.le G'→Rel Γ N G' E' s' a' w'→K2 E' s'→Q .normal a' w'):(Code.region id #[o1,o2,o3,o4,o5,o6,o7,o8,o9,rf,o,yg] false).wpIn Fence.wide 0 P Q a w:=
  yf (K1:=K1) (K2:=K2) [o1,o2,o3,o4,o5,o6,o7,o8,o9,rf] [yg] ho hg hd (h1 _) hr (hy _) hq
theorem Rel.entry{args:List AV}{vs:List Value}(hs:aQ Γ G s w)(hv:ar G args vs)(hn:args.length≤N)(uK:G.df=[]):
    Rel Γ N G (bx args) s {tmps:=vs.toArray++Array.replicate (N-vs.toArray.size) undef,defers:=[]} w:=by
  have QW:=hv.length;refine⟨hs,by simp;omega,fun i=>?_,uK.symm⟩;simp only[bx];by_cases hi:i<args.length
  · obtain⟨u,h1,h2⟩:=hv.getD i hi;have aY:i<vs.length:=(by omega);rw[Array.getD_eq_getD_getElem?,Array.getElem?_append_left (by simpa using aY)];simp only[List.getElem?_toArray,h1,Option.getD_some];exact h2
  · have e1:args.getD i (.v undef)=.v undef:=(by simp[List.getD,List.getElem?_eq_none (Nat.le_of_not_lt hi)]);rw[e1,Array.getD_eq_getD_getElem?,Array.getElem?_append_right (by simp;omega)];simp only[av];cases hh:(Array.replicate (N-vs.toArray.size) undef)[i-vs.toArray.size]? with
    |none=>rfl
    |some u=>
      rw[Array.getElem?_replicate] at hh;split at hh
      · cases hh;rfl
      · cases hh
end Go.AM
namespace Go.AM
open Go Go.RowKit
variable{P:Program}{Γ:Nat→List AV}{N:Nat}
theorem eE.trans{E E' ji:Env}{s s' ic:AS}(h:eE Γ N E s E' s')(k:eE Γ N E' s' ji ic):eE Γ N E s ji ic:=by
  intro G a w hr;obtain⟨G1,h1,h2⟩:=h G a w hr;obtain⟨G2,k1,k2⟩:=k G1 a w h2;exact⟨G2,h1.trans k1,k2⟩
theorem iw{E:Env}{s:AS}{Q:Exit→Env→AS→Prop}(d1 d2:Nat){id:Nat}{L:List Oper}{y:Code}(NY:d1∈cC L)(Kl:d2∈cC L)(cY:d1≠d2)
    (h:∀K:Env→AS→Prop,(∀E s o1 o2 Ra Ov,E d1=.ptr o1 0→E d2=.ptr o2 0→s.aw o1=none→(s.set o1 Ra).aw o2=none→ct P Γ N y Q (aB (aB E d2 (.cN Ov)) d1 (.cN Ra)) s→K E ((s.set o1 Ra).set o2 Ov))→AY P Γ N L.toArray L K E s):
    ct P Γ N (.seq (.region id L.toArray false) y) Q E s:=by
  refine lh (jl ?_);have:=h (fun E' s'=>∃ji ic,eE Γ N E' s' ji ic∧(∀i,i∉cC L→ji i=E' i)∧aA (ct P Γ N y Q) Q .normal ji ic) ?_
  · rw[ay] at this;simpa using this
  · intro E' s' o1 o2 Ra Ov h1 h2 h3 h4 h5;refine⟨aB (aB E' d2 (.cN Ov)) d1 (.cN Ra),s',?_,?_,h5⟩
    · have g1:=eE.lA (Γ:=Γ) (N:=N) (E:=E') (s:=(s'.set o1 Ra).set o2 Ov) (d:=d2) h2 (AS.af _ _ _);rw[AS.drop_set h4] at g1;have g2:=eE.lA (Γ:=Γ) (N:=N) (E:=aB E' d2 (.cN Ov)) (s:=s'.set o1 Ra) (d:=d1) (by rw[gQ _ _ cY];exact h1) (AS.af _ _ _);rw[AS.drop_set h3] at g2;exact g1.trans g2
    · intro i hi;rw[gQ _ _ (fun e=>hi (by rw[e];exact NY)),gQ _ _ (fun e=>hi (by rw[e];exact Kl))]
theorem AS.La{s:AS}{o:Nat}{cs:List AV}(h:s.aw o=some cs):s.set o cs=s:=by
  cases s with
  |mk aw own=>
    simp only[AS.set,AS.mk.injEq,and_true];funext i;simp only[aB];split
    · rename_i e;subst e;exact h.symm
    · rfl
end Go.AM
namespace Go.AM
open Go Go.RowKit
variable{P:Program}{Γ:Nat→List AV}{G:Gh}{s:AS}{w:World}
theorem Cn{ρ:Operand→AV}{ρ':Operand→Value}{o:Oper}{src dst e:TypeId}{x:Operand}{l:List UInt8}(ho:o.op=.convert src dst x)(FT:P.underlying src=some .string)(FU:P.underlying dst=some (.slice e))(he:P.underlying e=some (.int .u8))
    (hx:ρ x=.v (.string ⟨l.toArray⟩)) (hρ:∀x,av G (ρ x) (ρ' x)) (hs:aQ Γ G s w):
    dp P Γ G (fun r s'=>dS s l r s') ((execOp ρ' o).run P w):=by
  have ph:=hρ x;rw[hx] at ph;simp only[av] at ph;obtain⟨cap,hle,lH⟩:=mA (P:=P) e (⟨l.toArray⟩:ByteArray) w;have fa:(⟨l.toArray⟩:ByteArray).size=l.length:=rfl;have B7:(⟨l.toArray⟩:ByteArray).data.toList=l:=rfl;rw[fa] at hle lH;rw[B7] at lH;have hto:s.own G.nt=none:=hs.gR (Nat.le_refl _);obtain⟨G',h1,h2,h3,h4⟩:=hs.stringToBytes e l (cap-l.length) cap (by omega) G.nt 0 (fun e' _=>hs.cb _ (Nat.le_refl _) e');have hr:(convert src dst (ρ' x)).run P w=.ok (.slice (some ⟨w.heap.size,0,none⟩) l.length cap) ((w.drew.alloc (.cells (dw l++gh (cap-l.length)).toArray e)).freeze ⟨w.heap.size,cap,none⟩ 1):=by
    rw[ph,←lH];simp[convert,run_underlying FT,run_underlying FU,run_underlying he]
  refine(show execOp ρ' o=(do pure (.value (←convert src dst (ρ' x)))) by
    obtain⟨d,op,type,pos,after,guard⟩:=o;simp only at ho;subst ho;rfl) ▸ dE ⟨G',_,_,.sl 1 l.length (l.map ae) (.own G.nt 0),s.bA G.nt 0,hr,h1,h2,?_,AS.bn (AS.le.refl s) hto 0,.inr ⟨G.nt,0,hto,AS.j0 _ _ _,rfl⟩⟩
  simp only[av];exact .inl ⟨w.heap.size,0,cap,dw l,rfl,by simp,hle,mz _,h3,by simpa[eC] using h4⟩
theorem Co{N:Nat}{E:Env}{Q:Exit→Env→AS→Prop}{id:Nat}{L2:List Oper}{o1 o:Oper}{code:Code}(hg:o.guard=none)(hd:∀d,o.dst=some d→d<N)
    (h:∀ops,AY P Γ N ops [o1] (fun E1 s1=>∃K1:AV→AS→Prop,(∀G a w,Rel Γ N G E1 s1 a w→dp P Γ G K1 ((execOp a.eval o).run P w))∧
      ∀r s2,K1 r s2→AY P Γ N ops L2 (fun E' s'=>ct P Γ N code Q E' s') (bw E1 o.dst r) s2) E s):
    ct P Γ N (.seq (.region id (o1::o::L2).toArray false) code) Q E s:=
  pG [o1] L2 hg hd (h _)
end Go.AM
namespace Go.AM
open Go Go.RowKit
theorem AV.tm{sz n:Nat}{cs ds:List AV}{sp:Sp}(h:gE.aE cs ds):(AV.sl sz n cs sp).aE (.sl sz n ds sp):=by
  intro G v hv;simp only[av] at hv⊢;have sW:cs=[]→ds=[]:=fun e=>by
    have:=h G [] (by rw[e];simp[ar]);cases ds with
    |nil=>rfl
    |cons d ds=>simp only[ar] at this;obtain⟨u,us,h1,_⟩:=this;cases h1
  rcases hv with⟨b,off,cap,vs,h1,h2,h3,h4,h5,h6⟩|⟨h1,h2,h3⟩|⟨h1,h2,h3⟩
  · refine .inl ⟨b,off,cap,vs,h1,?_,h3,h G vs h4,h5,h6⟩;have e1:=h4.length;have e2:=(h G vs h4).length;omega
  · exact .inr (.inl ⟨h1,sW h2,h3⟩)
  · exact .inr (.inr ⟨h1,sW h2,h3⟩)
end Go.AM
namespace Go.AM
open Go Go.RowKit
variable{rd:Option Nat}{P:Program}{Γ:Nat→List AV}{N:Nat}
def Gy(P:Program)(Γ:Nat→List AV)(N:Nat)(c:Code)(Q:Exit→Env→AS→Prop)(E:Env)(s:AS):Prop:=
  ∀(G:Gh)(a:Act)(w:World),Rel Γ N G E s a w→∀{rd:Option Nat},c.wpIn (uD rd) 0 P (fun e a' w'=>∃G' E' s',G.le G'∧Rel Γ N G' E' s' a' w'∧Q e E' s') a w
section
variable{E:Env}{s:AS}{Q:Exit→Env→AS→Prop}
theorem ct.g{c:Code}(h:ct P Γ N c Q E s):Gy P Γ N c Q E s:=fun G a w hr=>wpIn_mono (h G a w hr) fun e a' w' ⟨G',E',s',h1,h2,h3,_⟩=>⟨G',E',s',h1,h2,h3⟩
theorem H5{x y:Code}(h:Gy P Γ N x (aA (Gy P Γ N y Q) Q) E s):Gy P Γ N (.seq x y) Q E s:=by
  intro G a w hr;refine wpIn_seq (wpIn_mono (h G a w hr) ?_);rintro e a' w' ⟨G',E',s',h1,h2,h3⟩;cases e<;>simp only[Exit.then,aA] at h3⊢;case normal=>
    refine wpIn_mono (h3 G' a' w' h2) ?_;rintro e zJ wA ⟨vF,ji,ic,k1,k2,k3⟩;exact⟨vF,ji,ic,h1.trans k1,k2,k3⟩
  all_goals exact⟨G',E',s',h1,h2,h3⟩
theorem cf{x y:Code}(h:∀K:Env→AS→Prop,(∀E s,Gy P Γ N y Q E s→K E s)→ct P Γ N x (aA K Q) E s):Gy P Γ N (.seq x y) Q E s:=
  H5 (h _ fun _ _ h=>h).g
theorem qq{c:Code}{E':Env}{s':AS}(g:eE Γ N E s E' s')(h:Gy P Γ N c Q E' s'):Gy P Γ N c Q E s:=by
  intro G a w hr;obtain⟨G1,k1,k2⟩:=g G a w hr;exact wpIn_mono (h G1 a w k2) fun e a' w' ⟨G',E',s',h1,h2,h3⟩=>⟨G',E',s',k1.trans h1,h2,h3⟩
end
theorem Jt{f:FuncId}{fn:Func}{c:Code}{args:List AV}{ca:AV→AS→Prop}{s:AS}(hf:P.funcs[f]? =some fn)(hb:fn.body=some c)(hn:args.length≤fn.ntmps)
    (h:Gy P Γ fn.ntmps c (ck P fn.results.toList ca) (bx args) s):aj P Γ f args s ca:=by
  intro G w vs hs hv;have QW:=hv.length;refine calls_of_wp hf hb ?_;have xI:Rel Γ fn.ntmps (G.cO []) (bx args) s {tmps:=vs.toArray++Array.replicate (fn.ntmps-vs.toArray.size) undef,defers:=[]} w:=by
    refine⟨hs.cO,by simp;omega,fun i=>?_,rfl⟩;simp only[bx];by_cases hi:i<args.length
    · obtain⟨u,h1,h2⟩:=hv.getD i hi;have aY:i<vs.length:=(by omega);rw[Array.getD_eq_getD_getElem?,Array.getElem?_append_left (by simpa using aY)];simp only[List.getElem?_toArray,h1,Option.getD_some];exact av.cO _ _ h2
    · have e1:args.getD i (.v undef)=.v undef:=(by simp[List.getD,List.getElem?_eq_none (Nat.le_of_not_lt hi)]);rw[e1,Array.getD_eq_getD_getElem?,Array.getElem?_append_right (by simp;omega)];simp only[av];cases hh:(Array.replicate (fn.ntmps-vs.toArray.size) undef)[i-vs.toArray.size]? with
      |none=>rfl
      |some u=>
        rw[Array.getElem?_replicate] at hh;split at hh
        · cases hh;rfl
        · cases hh
  refine wpIn_wide.1 (wpIn_mono (F:=uD none) (n:=0) (h _ _ w xI) ?_);rintro e a' w' ⟨G',E',s',h1,h2,h3⟩;have fin:bz P fn.results.toList ca E' s'→bodyPost P fn (fun e w'=>∃G' r v s',e=.returned v∧G.le G'∧aQ Γ G' s' w'∧av G' r v∧ca r s') .normal a' w':=by
    intro hF;unfold bz at hF;split at hF
    · rename_i NU FV;obtain⟨r,s2,q1,q2,q3⟩:=hF;obtain⟨zs,r1,r2⟩:=qm h2 FV;refine⟨h2.defers.trans h1.df,if h:zs.toArray.size=1 then zs.toArray[0] else .tuple zs.toArray,?_,G'.cO G.df,r,_,s2,rfl,Gh.xr h1,(h2.st.mono q2).cO,av.cO _ _ (q1 _ _ (rL r2)),q3⟩;rw[lO,Array.mapM_eq_mapM_toList];simp only[Sem.run_bind,Sem.run_map,r1,Result.andThen_ok,Sem.run_pure]
    · exact hF.elim
  cases e<;>simp only[ck] at h3;case normal=>exact fin h3
  case ret=>exact fin h3
theorem pJ{f:FuncId}{fn:Func}{c:Code}{rs:Array ResultVar}{N:Nat}{args:List AV}{ca:AV→AS→Prop}{s:AS}(hf:P.funcs[f]? =some fn)(hb:fn.body=some c)(hN:fn.ntmps=N)(Jm:fn.results=rs)(hn:args.length≤N)
    (h:Gy P Γ N c (ck P rs.toList ca) (bx args) s):aj P Γ f args s ca:=by
  subst hN Jm;exact Jt hf hb hn h
end Go.AM
namespace Go.AM
open Go Go.RowKit Go.ChangeShapes
variable{H:Type}{enc:TypeId×Value→H}{P:Program}
theorem tn{w:World}{base:Nat}{spare:Nat→Bool}{held:Bool}{fuel:Nat}{t e:TypeId}{d:DataW H}{p:List MemPlace}{v:Value}{ts:List TypeId}{ds:List (DataW H)}{j:Nat}(hu:P.underlying t=some (.slice e))
    (hz:(DataW.weightsEach P ts ds).all (·≤reachBytes)=true) (ht:ts[j]? =some t) (hd:ds[j]? =some d) (h:DataW.trod enc P w base spare held fuel t v.cells.toList=some (d,p)) (hb:1≤P.bytesOf e):
    ∀a l c,v=.slice a l c→l≤reachBytes:=by
  rintro a l c rfl;simp only[Value.cells] at h;rcases DataW.trod_slice hu h with⟨h1,_⟩|⟨a',len,cap,elems,rest,n,_,h1,h2,_,_,_,hlen,_⟩
  · simp only[List.cons.injEq,Value.slice.injEq,and_true] at h1;omega
  · simp only[List.cons.injEq,Value.slice.injEq,and_true] at h1;simp only[Prod.mk.injEq] at h2;obtain⟨rfl,_⟩:=h2;have:=sized_slice hz ht hd hu;simp only[List.length_map] at this;have h3:(elems.length+rest.length)*1≤(elems.length+rest.length)*P.bytesOf e:=Nat.mul_le_mul_left _ hb;omega
end Go.AM
namespace Go.AM
open Go Go.RowKit
variable{P:Program}{Γ:Nat→List AV}{G:Gh}{s:AS}{w:World}
end Go.AM
namespace Go.AM
open Go Go.RowKit Go.ChangeShapes
variable{H:Type}{enc:TypeId×Value→H}{P:Program}
theorem j9{w:World}{base:Nat}{spare:Nat→Bool}{held:Bool}{fuel:Nat}{t e:TypeId}{d:DataW H}{p:List MemPlace}{cs:List Value}{ts:List TypeId}{ds:List (DataW H)}{j:Nat}{fs:Array Field}(hu:P.underlying t=some (.struct fs))
    (hz:(DataW.weightsEach P ts ds).all (·≤reachBytes)=true) (ht:ts[j]? =some t) (hd:ds[j]? =some d) (h:DataW.trod enc P w base spare held fuel t cs=some (d,p)) (i:Nat) {f:Field} (hf:fs[i]? =some f)
    (he:P.underlying f.type=some (.slice e)) (hb:1≤P.bytesOf e) (hc:P.cellsOf f.type=1):∀a l c,cs[f.offset]? =some (.slice a l c)→l≤reachBytes:=by
  intro a l c FW;obtain⟨xs,n,_,hx,hl,NW,bS⟩:=DataW.trod_struct hu h;simp only[Prod.mk.injEq] at hx;obtain⟨rfl,_⟩:=hx;have h1:=bS i f hf;have hi:i<fs.size:=(Array.getElem?_eq_some_iff.1 hf).1;rw[hc,show(cs.drop f.offset).take 1=[.slice a l c] from by
    obtain⟨k1,k2⟩:=List.getElem?_eq_some_iff.1 FW;rw[List.drop_eq_getElem_cons k1,k2];rfl,List.getElem?_eq_getElem (by omega)] at h1
  have hw:(DataW.weightsEach P (fs.toList.map (·.type)) (xs.map (·.1))).all (·≤reachBytes)=true:=by
    rw[List.all_eq_true];intro m hm;exact List.all_eq_true.1 hz m (DataW.weights_mem_each ht hd m (by simp only[DataW.weights,hu];exact hm))
  refine tn (v:=.slice a l c) (j:=i) (d:=(xs[i]'(by omega)).1) (p:=(xs[i]'(by omega)).2) he hw (by simp[List.getElem?_map,hf]) (by simp[List.getElem?_map,List.getElem?_eq_getElem (show i<xs.length by omega)]) (fuel:=n) (by simpa[Value.cells] using h1) hb a l c rfl
end Go.AM
namespace Go.AM
open Go Go.RowKit
theorem DF:type_of%(And.intro (And.intro (And.intro (And.intro (And.intro (And.intro @cL.eq_1 (And.intro @cL.eq_2 @cL.eq_3)) (And.intro @cL.eq_4 (And.intro @cL.eq_5 @cL.eq_6))) (And.intro
    (And.intro @cL.eq_7 (And.intro @cL.eq_8 @cL.eq_9)) (And.intro (And.intro @cL.eq_10 @cL.eq_11) (And.intro @cL.eq_12 @cL.eq_13)))) (And.intro (And.intro (And.intro
    @cL.eq_14 (And.intro @cL.eq_15 @cL.eq_16)) (And.intro @cL.eq_17 (And.intro @cL.eq_18 @cL.eq_19))) (And.intro (And.intro @ik.eq_1 (And.intro @ik.eq_2
    @ik.eq_3)) (And.intro (And.intro @ik.eq_4 @ik.eq_5) (And.intro @ik.eq_6 @ik.eq_7))))) (And.intro (And.intro (And.intro (And.intro @ik.eq_8 (And.intro @ik.eq_9
    @ik.eq_10)) (And.intro @ik.eq_11 (And.intro @ik.eq_12 @ik.eq_13))) (And.intro (And.intro @fo.eq_1 (And.intro @fo.eq_2 @fo.eq_3)) (And.intro (And.intro @fo.eq_4
    @fo.eq_5) (And.intro @fo.eq_6 @fo.eq_7)))) (And.intro (And.intro (And.intro @fo.eq_8 (And.intro @fo.eq_9 @fo.eq_10)) (And.intro @fo.eq_11 (And.intro @fo.eq_12
    @fo.eq_13))) (And.intro (And.intro @fo.eq_14 (And.intro @fo.eq_15 @fo.eq_16)) (And.intro (And.intro @vA.eq_1 @vA.eq_2) (And.intro @vA.eq_3 @xt.eq_1))))))
    (And.intro (And.intro (And.intro (And.intro (And.intro @xt.eq_2 (And.intro @xt.eq_3 @xt.eq_4)) (And.intro @nf.eq_1 (And.intro @nf.eq_2 @nf.eq_3))) (And.intro
    (And.intro @F7.eq_1 (And.intro @F7.eq_2 @F7.eq_3)) (And.intro (And.intro @F7.eq_4 @F7.eq_5) (And.intro @F7.eq_6 @dR.eq_1)))) (And.intro (And.intro (And.intro
    @dR.eq_2 (And.intro @dR.eq_3 @im.eq_1)) (And.intro @im.eq_2 (And.intro @im.eq_3 @im.eq_4))) (And.intro (And.intro @im.eq_5 (And.intro @iY.eq_1
    @iY.eq_2)) (And.intro (And.intro @placeOf.eq_1 @bp.eq_1) (And.intro @bp.eq_2 @undef.eq_1))))) (And.intro (And.intro (And.intro (And.intro @oC.eq_1 (And.intro
    @apart.eq_1 @aN.eq_1)) (And.intro @aN.eq_2 (And.intro @aN.eq_3 @aN.eq_4))) (And.intro (And.intro @bw.eq_1 (And.intro @bw.eq_2 @aB.eq_1)) (And.intro (And.intro
    @bx.eq_1 @nO.eq_1) (And.intro @aA.eq_1 @aA.eq_2)))) (And.intro (And.intro (And.intro @aq.eq_1 (And.intro @aq.eq_2 @kR.eq_1)) (And.intro @al.eq_1
    (And.intro @Array.isEmpty.eq_1.{0} @List.isEmpty.eq_1.{0}))) (And.intro (And.intro @List.isEmpty.eq_2.{0} (And.intro @implies_true.{0} @implies_true.{1})) (And.intro (And.intro
    @forall_eq'.{1} @ne_eq.{1}) (And.intro @if_true.{1} @if_false.{1}))))))):=
  (And.intro (And.intro (And.intro (And.intro (And.intro (And.intro @cL.eq_1 (And.intro @cL.eq_2 @cL.eq_3)) (And.intro @cL.eq_4 (And.intro @cL.eq_5 @cL.eq_6))) (And.intro
    (And.intro @cL.eq_7 (And.intro @cL.eq_8 @cL.eq_9)) (And.intro (And.intro @cL.eq_10 @cL.eq_11) (And.intro @cL.eq_12 @cL.eq_13)))) (And.intro (And.intro (And.intro
    @cL.eq_14 (And.intro @cL.eq_15 @cL.eq_16)) (And.intro @cL.eq_17 (And.intro @cL.eq_18 @cL.eq_19))) (And.intro (And.intro @ik.eq_1 (And.intro @ik.eq_2
    @ik.eq_3)) (And.intro (And.intro @ik.eq_4 @ik.eq_5) (And.intro @ik.eq_6 @ik.eq_7))))) (And.intro (And.intro (And.intro (And.intro @ik.eq_8 (And.intro @ik.eq_9
    @ik.eq_10)) (And.intro @ik.eq_11 (And.intro @ik.eq_12 @ik.eq_13))) (And.intro (And.intro @fo.eq_1 (And.intro @fo.eq_2 @fo.eq_3)) (And.intro (And.intro @fo.eq_4
    @fo.eq_5) (And.intro @fo.eq_6 @fo.eq_7)))) (And.intro (And.intro (And.intro @fo.eq_8 (And.intro @fo.eq_9 @fo.eq_10)) (And.intro @fo.eq_11 (And.intro @fo.eq_12
    @fo.eq_13))) (And.intro (And.intro @fo.eq_14 (And.intro @fo.eq_15 @fo.eq_16)) (And.intro (And.intro @vA.eq_1 @vA.eq_2) (And.intro @vA.eq_3 @xt.eq_1))))))
    (And.intro (And.intro (And.intro (And.intro (And.intro @xt.eq_2 (And.intro @xt.eq_3 @xt.eq_4)) (And.intro @nf.eq_1 (And.intro @nf.eq_2 @nf.eq_3))) (And.intro
    (And.intro @F7.eq_1 (And.intro @F7.eq_2 @F7.eq_3)) (And.intro (And.intro @F7.eq_4 @F7.eq_5) (And.intro @F7.eq_6 @dR.eq_1)))) (And.intro (And.intro (And.intro
    @dR.eq_2 (And.intro @dR.eq_3 @im.eq_1)) (And.intro @im.eq_2 (And.intro @im.eq_3 @im.eq_4))) (And.intro (And.intro @im.eq_5 (And.intro @iY.eq_1
    @iY.eq_2)) (And.intro (And.intro @placeOf.eq_1 @bp.eq_1) (And.intro @bp.eq_2 @undef.eq_1))))) (And.intro (And.intro (And.intro (And.intro @oC.eq_1 (And.intro
    @apart.eq_1 @aN.eq_1)) (And.intro @aN.eq_2 (And.intro @aN.eq_3 @aN.eq_4))) (And.intro (And.intro @bw.eq_1 (And.intro @bw.eq_2 @aB.eq_1)) (And.intro (And.intro
    @bx.eq_1 @nO.eq_1) (And.intro @aA.eq_1 @aA.eq_2)))) (And.intro (And.intro (And.intro @aq.eq_1 (And.intro @aq.eq_2 @kR.eq_1)) (And.intro @al.eq_1
    (And.intro @Array.isEmpty.eq_1.{0} @List.isEmpty.eq_1.{0}))) (And.intro (And.intro @List.isEmpty.eq_2.{0} (And.intro @implies_true.{0} @implies_true.{1})) (And.intro (And.intro
    @forall_eq'.{1} @ne_eq.{1}) (And.intro @if_true.{1} @if_false.{1})))))))
theorem DB:type_of%(And.intro (And.intro (And.intro @Bool.not_true @Bool.not_false) (And.intro @Bool.false_eq_true @Bool.true_eq_false)) (And.intro (And.intro @false_imp_iff @true_imp_iff) (And.intro @decide_eq_true_eq @decide_eq_false_iff_not))):=
  (And.intro (And.intro (And.intro @Bool.not_true @Bool.not_false) (And.intro @Bool.false_eq_true @Bool.true_eq_false)) (And.intro (And.intro @false_imp_iff @true_imp_iff) (And.intro @decide_eq_true_eq @decide_eq_false_iff_not)))
theorem DX:type_of%(And.intro (And.intro @List.contains_cons.{0} (And.intro @List.contains_nil.{0} @Bool.or_false)) (And.intro (And.intro @Bool.or_true @Bool.or_self) (And.intro @Bool.false_eq_true @Bool.false_or))):=
  (And.intro (And.intro @List.contains_cons.{0} (And.intro @List.contains_nil.{0} @Bool.or_false)) (And.intro (And.intro @Bool.or_true @Bool.or_self) (And.intro @Bool.false_eq_true @Bool.false_or)))
theorem DT:type_of%(And.intro (And.intro @xV (And.intro @xW @xX)) (And.intro @te (And.intro @vL @vM))):=
  (And.intro (And.intro @xV (And.intro @xW @xX)) (And.intro @te (And.intro @vL @vM)))
end Go.AM
namespace Go.AM
open Go Go.RowKit
variable{P:Program}{Γ:Nat→List AV}{N:Nat}{E:Env}{s:AS}{Q:Exit→Env→AS→Prop}
theorem vS(d:Nat){id:Nat}{L:List Oper}{y:Code}(hd:d∈cC L)
    (h:∀K:Env→AS→Prop,(∀E s o cs,E d=.ptr o 0→s.aw o=none→Gy P Γ N y Q (aB E d (.cN cs)) s→K E (s.set o cs))→AY P Γ N L.toArray L K E s):Gy P Γ N (.seq (.region id L.toArray false) y) Q E s:=by
  refine H5 (ct.g (jl ?_));have:=h (fun E' s'=>∃ji ic,eE Γ N E' s' ji ic∧(∀i,i∉cC L→ji i=E' i)∧aA (Gy P Γ N y Q) Q .normal ji ic) ?_
  · rw[ay] at this;simpa using this
  · intro E' s' o cs h1 h2 h3;refine⟨aB E' d (.cN cs),s',?_,?_,h3⟩
    · have:=eE.lA (Γ:=Γ) (N:=N) (E:=E') (s:=s'.set o cs) (d:=d) h1 (AS.af _ _ _);rwa [AS.drop_set h2] at this
    · intro i hi;exact gQ _ _ (fun e=>hi (e ▸ hd))
theorem eE.weaken{d:Nat}{v:AV}(h:AV.aE (E d) v):eE Γ N E s (aB E d v) s:=by
  intro G a w hr;refine⟨G,.refl G,hr.st,hr.size,fun i=>?_,hr.defers⟩;simp only[aB];split
  · rename_i e;subst e;exact h _ _ (hr.tmps i)
  · exact hr.tmps i
end Go.AM
namespace Go.AM
open Go
end Go.AM
namespace Go.AM
open Go Go.RowKit
variable{rd:Option Nat}{P:Program}{Γ:Nat→List AV}{G:Gh}{s:AS}{w:World}{N:Nat}{ops:Array Oper}
inductive Mk where
  |val
  |xd
  |Lb (v:AV)
  |frz
def xb8(P:Program)(o:Oper):Option AV:=
  match o.op with
  |.makeSlice T (.const (.int _ n)) _=>
    match P.underlying T with
    |some (.slice e)=>match bo P e with |some z=>some (.sl (P.cellsOf e) n.toNat (nG (n.toNat*P.cellsOf e) z) .no)|none=>none
    |_=>none
  |_=>none
def SU(P:Program)(N:Nat)(o:Oper):Bool:=
  match o.guard,o.dst,o.op with
  |none,some d,.alloc T=>decide (d<N)&&(bo P T).isSome
  |none,some d,.makeSlice T (.const (.int _ n)) (.const (.int _ m))=>
    decide (d<N)&&(match P.underlying T with
      |some (.slice e)=>(match bo P e with
        |some z=>decide (0≤n)&&(decide (m=n)&&(decide (P.bytesOf e*n≤70368744177664)&&(decide (n≤70368744177664)&&(decide (P.cellsOf e≠0)&&decide (z.length=P.cellsOf e)))))
        |none=>false)
      |_=>false)
  |_,_,_=>false
def rQ(ops:Array Oper)(o:Oper)(E:Env):Prop:=
  match o.guard with
  |none=>True
  |some (j,want)=>match nO ops j with |some d=>E d=.v (.bool want)|none=>False
theorem Bf{ops:Array Oper}{o:Oper}{E E':Env}(h:∀d,d∈o.looksAt ops→E' d=E d)(hv:rQ ops o E):rQ ops o E':=by
  cases hg:o.guard with
  |none=>simp[rQ,hg]
  |some g=>
    obtain⟨j,want⟩:=g;simp only[rQ,hg] at hv⊢;cases hj:nO ops j with
    |none=>rw[hj] at hv;exact hv.elim
    |some d=>
      rw[hj] at hv;have :E' d=E d:=h d (by
        by_cases hd:d∈o.looksAt ops
        · exact hd
        · exact absurd hj (mC hd hg))
      simp only[this];exact hv
theorem Lc{P:Program}{Γ:Nat→List AV}{N:Nat}{ops:Array Oper}{o:Oper}{E:Env}{s:AS}{K:Env→AS→Prop}(hg:rQ ops o E):AX P Γ N ops [o] K E s↔AX P Γ N ops [{o with guard:=none}] K E s:=by
  cases h:o.guard with
  |none=>
    have :({o with guard:=none}:Oper)=o:=(by cases o;simp_all);rw[this]
  |some g=>
    obtain⟨j,want⟩:=g;simp only[rQ,h] at hg;cases hj:nO ops j with
    |none=>rw[hj] at hg;exact hg.elim
    |some d=>
      rw[hj] at hg;have:=xP (P:=P) (Γ:=Γ) (N:=N) (rest:=[]) (K:=K) (s:=s) h hj hg;rw[ay] at this;rw[this,if_pos rfl]
def VC(P:Program)(Γ:Nat→List AV)(o:Oper)(E:Env)(v:AV):Prop:=
  o.guard=none∧
  match o.op with
  |.call {callee:=.value f,args,.. }=>
    match aN Γ E f with
    |.v (.func (.func k) first cg)=>first.isEmpty=true∧cg.isEmpty=true∧ai P k=true∧∀s,aj P Γ k (args.toList.map (aN Γ E)) s (fun r s'=>r=v∧s'=s)
    |_=>False
  |_=>False
def GV(P:Program)(Γ:Nat→List AV)(N:Nat)(ops:Array Oper)(m:Mk)(o:Oper)(E:Env)(v:AV):Prop:=
  match m with
  |.Lb u=>v=u∧VC P Γ o E u
  |.val=>bE P Γ ops o E=some v
  |.frz=>rQ ops o E∧SU P N {o with guard:=none}=true∧xb8 P o=some v
  |.xd=>False
def Mk.dF:Mk→Bool
  |.xd=>true
  |_=>false
def SW(P:Program)(Γ:Nat→List AV)(N:Nat)(ops:Array Oper):List (Oper×Mk)→(Env→AS→Prop)→Env→AS→Prop
  |[],K,E,s=>K E s
  |(o,m)::rest,K,E,s=>
    if m.dF=true then AX P Γ N ops [o] (SW P Γ N ops rest K) E s
    else(∀d,o.dst=some d→d<N)∧∃v,GV P Γ N ops m o E v∧SW P Γ N ops rest K (bw E o.dst v) s
theorem OJ{o:Oper}{E:Env}{v:AV}{K:Env→AS→Prop}(hd:∀d,o.dst=some d→d<N)(hv:VC P Γ o E v)(h:K (bw E o.dst v) s):AX P Γ N ops [o] K E s:=by
  obtain⟨hg,hv⟩:=hv;simp only[AX,hg];refine⟨hd,?_⟩;cases hc:o.op<;>rw[hc] at hv;case call c=>
    obtain⟨callee,args,argTypes⟩:=c;cases callee with
    |value f=>
      simp only[cc,cL,dj];simp only at hv;split at hv
      · rename_i k first cg hf
        simp only[hf];obtain⟨h1,h2,h3,h4⟩:=hv;refine⟨h1,h2,h3,(h4 s).mono ?_⟩;rintro r s' ⟨rfl,rfl⟩;exact h
      · cases hv
    |invoke r m=>cases hv
    |builtin b=>cases hv
  all_goals cases hv
theorem SX{o:Oper}{m:Mk}(hmf:m≠.frz){L:List (Oper×Mk)}{E:Env}{K:Env→AS→Prop}(h:SW P Γ N ops ((o,m)::L) K E s):AX P Γ N ops [o] (SW P Γ N ops L K) E s:=by
  simp only[SW] at h;split at h
  · exact h
  · obtain⟨hd,v,hv,h⟩:=h;cases m with
    |Lb u=>
      obtain⟨rfl,hv⟩:=hv;exact OJ hd hv h
    |xd=>exact hv.elim
    |frz=>exact absurd rfl hmf
    |val=>
      have hv:bE P Γ ops o E=some v:=hv;have :px P Γ N ops [(o,false)] (SW P Γ N ops L K) E s:=by
        simp only[px,Bool.false_eq_true,if_false,hv];exact⟨hd,h⟩
      have:=Gm this;simpa only[px] using this
def xaR(P:Program)(Γ:Nat→List AV)(N:Nat)(ops:Array Oper)(o:Oper):Prop:=
  ∃(v:Nat→AV)(z:List AV),∀(E:Env)(s:AS)(K:Env→AS→Prop),AX P Γ N ops [o] K E s↔∀ob,s.aw ob=none→K (bw E o.dst (v ob)) (s.set ob z)
def oG:List (Nat×AV)→Nat→Option AV
  |[],_=>none
  |(i,v)::L,k=>if k=i then some v else oG L k
theorem qu{k:Nat}:oG [] k=none:=rfl
theorem nW{i k:Nat}{v:AV}{L:List (Nat×AV)}:oG ((i,v)::L) k=if k=i then some v else oG L k:=rfl
section
variable{Q:Exit→Env→AS→Prop}{E:Env}
end
end Go.AM
namespace Go.AM
open Go Go.RowKit
variable{rd:Option Nat}{P:Program}{Γ:Nat→List AV}{G:Gh}{s:AS}{w:World}{N:Nat}{ops:Array Oper}
variable{Q:Exit→Env→AS→Prop}{E:Env}
theorem Ld{s:AS}{o1 o2:Nat}(h:o1≠o2)(a b c d:List AV):(((s.set o1 a).set o2 b).set o1 c).set o2 d=(s.set o1 c).set o2 d:=by
  rw[AS.OD _ h,AS.set_set]
end Go.AM
namespace Go.AM
open Go Go.RowKit
variable{P:Program}{Γ:Nat→List AV}{G:Gh}{s:AS}{w:World}{N:Nat}
def AS.tells(Γ:Nat→List AV)(s s':AS):Prop:=∀G w,aQ Γ G s w→aQ Γ G s' w
theorem aQ.OK{o:Nat}{cs cs':List AV}(h:aQ Γ G s w)(ho:s.aw o=some cs)(hw:gE.aE cs cs'):aQ Γ G (s.set o cs') w:=by
  refine⟨h.ro,?_,h.cX,h.inj,h.own,h.cJ,h.bR,h.cF,h.cb,h.below,h.others,h.base,h.gZ,h.soft⟩;intro o' ds hd;by_cases e:o'=o
  · subst e;rw[AS.af] at hd;cases hd;obtain⟨b,vs,h1,h2,h3,h4⟩:=h.aw o' cs ho;exact⟨b,vs,h1,hw G vs h2,h3,h4⟩
  · rw[AS.ao _ e] at hd;exact h.aw o' ds hd
theorem AS.uN{o:Nat}{cs cs':List AV}(ho:s.aw o=some cs)(hw:gE.aE cs cs'):AS.tells Γ s (s.set o cs'):=fun _ _ h=>h.OK ho hw
theorem Bg{c:Code}{Q:Exit→Env→AS→Prop}{E:Env}{s s':AS}(h:AS.tells Γ s s')(k:ct P Γ N c Q E s'):ct P Γ N c Q E s:=
  fun G a w hr=>k G a w ⟨h G w hr.st,hr.size,hr.tmps,hr.defers⟩
def cZ(sz:Nat)(s0 s:AS)(x:AV)(n:Nat)(cs:List AV):Prop:=(x=bU∧n=0∧cs=[])∨∃t e,x=.sl sz n cs (.own t e)∧s.own t=some e∧s0.own t=none
theorem cZ.aE{sz:Nat}{s0 s:AS}{x:AV}{n:Nat}{cs:List AV}(h:cZ sz s0 s x n cs):x.aE (.sl sz n cs .any):=by
  rcases h with⟨rfl,rfl,rfl⟩|⟨t,e,rfl,_,_⟩
  · exact AV.aM
  · exact AV.bN
theorem cZ.one{sz:Nat}{s0 s:AS}{x:AV}{n:Nat}{cs:List AV}(h:cZ sz s0 s x n cs):x.one=true:=by
  rcases h with⟨rfl,_,_⟩|⟨t,e,rfl,_,_⟩
  · rfl
  · rfl
theorem cZ.nil(sz:Nat)(s0 s:AS):cZ sz s0 s bU 0 []:=.inl ⟨rfl,rfl,rfl⟩
theorem cZ.own{sz:Nat}{s0 s s':AS}{x:AV}{n:Nat}{cs:List AV}(h:cZ sz s0 s x n cs)(k:∀t e,s.own t=some e→s0.own t=none→s'.own t=some e):cZ sz s0 s' x n cs:=by
  rcases h with h|⟨t,e,h1,h2,h3⟩
  · exact .inl h
  · exact .inr ⟨t,e,h1,k t e h2 h3,h3⟩
end Go.AM
