/- An abstract machine for the model and the rules of its walk, each proved sound over the model; no condition. -/
import Derived.Test.YtbiefppedlodiaaGreatDoorAMp5
import Derived.RangeFuncIn
import Derived.RangeFuncRecord
import Derived.RangeFuncSeq
import Derived.RangeFuncLeaves
import Derived.Test.YtbiefppedlodiaaGreatDoorAMp4
import Derived.SizedLaws
import Derived.OpenShut
set_option linter.unusedSimpArgs false
set_option linter.unusedVariables false
namespace Go.AM
open Go Go.RowKit
variable{rd:Option Nat}{P:Program}{Γ:Nat→List AV}{G:Gh}{s:AS}{w:World}
theorem pG{N:Nat}{E:Env}{Q:Exit→Env→AS→Prop}{id:Nat}(L1 L2:List Oper){o:Oper}{code:Code}(hg:o.guard=none)(hd:∀d,o.dst=some d→d<N)
    (h:AY P Γ N (L1++o::L2).toArray L1 (fun E1 s1=>∃K1:AV→AS→Prop,(∀G a w,Rel Γ N G E1 s1 a w→dn P Γ G K1 ((execOp a.eval o).run P w))∧
      ∀r s2,K1 r s2→AY P Γ N (L1++o::L2).toArray L2 (fun E' s'=>cp P Γ N code Q E' s') (bx E1 o.dst r) s2) E s):
    cp P Γ N (.seq (.region id (L1++o::L2).toArray false) code) Q E s:=by
  rw[ay] at h;refine kQ ?_;intro G a w hr;refine wpIn_region ?_;have bT:∀ops:Array Oper,(List.range ops.size).map (ops[·]?)=ops.toList.map some:=by
    intro ops;apply List.ext_getElem?;intro i;simp only[List.getElem?_map];by_cases hi:i<ops.size
    · simp[hi]
    · simp[hi]
  have pH:=bT (L1++o::L2).toArray;generalize hI:List.range (L1++o::L2).toArray.size=I at pH;have h1:(I.take L1.length).map ((L1++o::L2).toArray[·]?)=L1.map some:=by
    rw[List.map_take,pH];simp
  have h2:(I.drop L1.length).map ((L1++o::L2).toArray[·]?)=(o::L2).map some:=by
    rw[List.map_drop,pH];simp
  rw[←List.take_append_drop L1.length I];generalize I.take L1.length=I1 at h1;generalize I.drop L1.length=I2 at h2;cases I2 with
  |nil=>simp at h2
  |cons i I2=>
    simp only[List.map_cons,List.cons.injEq] at h2;refine dV L1 I1 (i::I2) h1 (dH _ h) hr ?_;rintro G1 E1 s1 a1 w1 gg qQ ⟨⟨K1,gP,hk⟩,B4⟩;rw[wpOpsIn_cons];simp only[wpOpIn,h2.1];rw[if_pos (dX hg)];refine(Oper.mZ qQ hd (gP G1 a1 w1 qQ) ?_);intro G3 r s3 a3 w3 Qw qR hK;refine lD L2 I2 h2.2 (dH _ (hk r s3 hK)) qR ?_;rintro G4 E4 s4 a4 w4 UJ Dd ⟨RV,Ko⟩;refine⟨G4,E4,s4,gg.trans (Qw.trans UJ),Dd,RV,?_⟩;intro i hi;have mem:∀L:List Oper,i∈cq L↔∃o∈L,o.dst=some i:=(fun L=>by simp[cq,List.mem_filterMap]);have aY:¬∃o'∈L1++o::L2,o'.dst=some i:=fun hm=>hi ((mem _).2 hm);have m1:i∉cq L1:=fun hm=>aY (by obtain⟨o,k1,k2⟩:=(mem _).1 hm;exact⟨o,by simp[k1],k2⟩);have m2:i∉cq L2:=fun hm=>aY (by obtain⟨o,k1,k2⟩:=(mem _).1 hm;exact⟨o,by simp[k1],k2⟩);have m3:o.dst≠some i:=fun e=>aY ⟨o,by simp,e⟩;rw[Ko i m2,cw m3,B4 i m1]
theorem B5{N:Nat}{E:Env}{Q:Exit→Env→AS→Prop}{id:Nat}{L2:List Oper}{o:Oper}{code:Code}(hg:o.guard=none)(hd:∀d,o.dst=some d→d<N)(K1:AV→AS→Prop)
    (gP:∀G a w,Rel Γ N G E s a w→dn P Γ G K1 ((execOp a.eval o).run P w))
    (h:∀r s2,K1 r s2→AY P Γ N (o::L2).toArray L2 (fun E' s'=>cp P Γ N code Q E' s') (bx E o.dst r) s2):
    cp P Γ N (.seq (.region id (o::L2).toArray false) code) Q E s:=
  pG [] L2 hg hd (by rw[F0];exact⟨K1,gP,h⟩)
theorem D6{ρ:Operand→AV}{ρ':Operand→Value}{o:Oper}{T:TypeId}{len:Nat}{parts:Array (Nat×Operand)}{cs z:List AV}{e:TypeId}(ho:o.op=.buildSlice T len parts)
    (hu:P.underlying T=some (.slice e)) (hz:bq P e=some z) (c1:P.cellsOf e≠0) (c2:len*P.cellsOf e≤2^24) (c3:z.length=P.cellsOf e)
    (h1:iM (fun i=>some (i*P.cellsOf e,P.cellsOf e)) (oV (len*P.cellsOf e) z) (parts.toList.map fun p=>(p.1,ρ p.2))=some cs) (hρ:∀x,av G (ρ x) (ρ' x)) (hs:aP Γ G s w):
    dn P Γ G (fun r s'=>∃ob,s.aw ob=none∧r=.gR ob 0 (P.cellsOf e) len len∧s'=s.set ob cs) ((execOp ρ' o).run P w):=by
  obtain⟨v,hv,rfl⟩:=dA hz;have dK:v.cells.toList≠[]:=by
    intro e';rw[e'] at c3;simp at c3;omega
  obtain⟨vs,h2,h3⟩:=jn (G:=G) (qs:=(parts.map fun p=>(p.1,ρ' p.2)).toList) _ h1 (by simpa using eK.of_map hρ parts.toList) (rp (len*P.cellsOf e) dK);obtain⟨ob,k1,k2,k3,k4⟩:=hs.newObj h3 e;refine(show execOp ρ' o=(do pure (.value (←Instr.buildSlice T len (parts.map fun p=>(p.1,ρ' p.2))))) by simp only[execOp,ho]) ▸ dB ⟨_,.slice (some ⟨w.heap.size,0,none⟩) len len,_,_,_,?_,k2,k3,?_,ob,k1,rfl,rfl⟩
  · simp only[Instr.buildSlice,Sem.run_bind,run_underlying hu,Result.andThen_ok,aS c1];rw[if_neg (by omega)];by_cases h0:len*P.cellsOf e=0
    · have ko:(Array.range (len*P.cellsOf e)).map (fun i=>(#[]:Array Value)[i%(#[]:Array Value).size]!)=((List.range (len*P.cellsOf e)).map fun i=>v.cells.toList.toArray[i%v.cells.toList.toArray.size]!).toArray:=by
        rw[h0];simp
      rw[if_pos h0];simp only[Sem.run_bind,Sem.run_pure,Result.andThen_ok,ko];simp only[h2];simp[newRow]
    · have ko:(Array.range (len*P.cellsOf e)).map (fun i=>v.cells[i%v.cells.size]!)=((List.range (len*P.cellsOf e)).map fun i=>v.cells.toList.toArray[i%v.cells.toList.toArray.size]!).toArray:=by
        apply Array.ext';simp
      rw[if_neg h0];simp only[Sem.run_bind,hv,Sem.run_pure,Result.andThen_ok,ko];simp only[h2];simp[newRow]
  · simp only[av];exact⟨_,k4,rfl,Nat.le_refl _⟩
end Go.AM
namespace Go.AM
open Go Go.RowKit
variable{P:Program}{Γ:Nat→List AV}{G:Gh}{s:AS}{w:World}{N:Nat}{E:Env}
theorem Oper.vC{l:Option Nat}{a:Act}{o:Oper}{K:AV→AS→Prop}{next:Act→World→Prop}{Q:Exit→Act→World→Prop}(hnd:∀c,o.op≠.defer c)(hr:Rel Γ N G E s a w)(hd:∀d,o.dst=some d→d<N)
    (h:dn P Γ G K ((execOp a.eval o).run P w)) (hn:∀G' r s' a' w',G.le G'→Rel Γ N G' (bx E o.dst r) s' a' w'→K r s'→next a' w'):o.wpIn (uo l) 0 P a w next Q:=by
  refine⟨fun _ _=>trivial,?_⟩;rw[Oper.semAt_eq _ _ _ hnd];generalize (execOp a.eval o).run P w=R at h;cases R with
  |ok n w'=>
    cases n<;>simp only[dn] at h;case value v=>
      obtain⟨G',r,s',h1,h2,h3,h4⟩:=h;simp only[Oper.uponIn];exact hn G' r s' _ _ h1 (hr.put h1 h2 h3 hd) h4
    case skip=>
      obtain⟨G',s',h1,h2,h3⟩:=h;simp only[Oper.uponIn];exact hn G' (.v undef) s' _ _ h1 (hr.put h1 h2 (by simp[av]) hd) h3
    case enter f args=>
      simp only[Oper.uponIn];refine⟨(fun e=>by cases e),CallsIn.mono (F:=Fence.wide) (callsIn_wide.2 h) ?_⟩;rintro e wj ⟨G',r,v,s',rfl,h1,h2,h3,h4⟩;exact hn G' r s' _ _ h1 (hr.put h1 h2 h3 hd) h4
  |halt x w'=>simp only[dn] at h
theorem vD{ρ:Operand→AV}{K:AV→AS→Prop}{op:Op}(h:b8 P Γ ρ s K op)(c:Call):op≠.defer c:=by
  rintro rfl;simp[b8,cH,dj] at h
theorem A5{l:Option Nat}{a:Act}{ops:Array Oper}{i:Nat}{I:List Nat}{o:Oper}{L:List Oper}{K:Env→AS→Prop}{Q:Exit→Act→World→Prop}(ho:ops[i]? =some o)
    (h:AX P Γ N ops (o::L) K E s) (hr:Rel Γ N G E s a w) (hn:∀G' E' s' a' w',G.le G'→Rel Γ N G' E' s' a' w'→AX P Γ N ops L K E' s'→wpOpsIn (uo l) 0 P ops Q I a' w'):wpOpsIn (uo l) 0 P ops Q (i::I) a w:=by
  simp only[AX] at h;obtain⟨hd,h⟩:=h;simp only[wpOpsIn,ho];split at h
  · rename_i hg;rw[if_pos (dX hg)];exact Oper.vC (vD h) hr hd (jq o h hr.eval hr.st) fun G' r s' a' w' h1 h2 h3=>hn G' _ s' a' w' h1 h2 h3
  · rename_i j want hg;split at h
    · exact h.elim
    · rename_i d hj;split at h
      · rename_i t hE;have hy:=xw hr hj hE;have hw:Region.wanted o (yielded ops a.tmps)=(t==want):=(by simp[Region.wanted,hg,hy]);split at h
        · rename_i ht;rw[if_pos (by rw[hw];simpa using ht)];exact Oper.vC (vD h) hr hd (jq o h hr.eval hr.st) fun G' r s' a' w' h1 h2 h3=>hn G' _ s' a' w' h1 h2 h3
        · rename_i ht;rw[if_neg (by rw[hw];simpa using ht)];exact⟨fun _ _=>trivial,hn G _ s _ _ (.refl G) (hr.put (.refl G) hr.st (by simp[av]) hd) h⟩
      · rename_i c hE;have hy:=sD hr hj hE;have hw:Region.wanted o (yielded ops a.tmps)=false:=(by simp[Region.wanted,hg,hy]);rw[if_neg (by rw[hw];simp)];exact⟨fun _ _=>trivial,hn G _ s _ _ (.refl G) (hr.put (.refl G) hr.st (by simp[av]) hd) h⟩
      · exact h.elim
theorem ib{l:Option Nat}{ops:Array Oper}{Q:Exit→Act→World→Prop}{K:Env→AS→Prop}:∀(L:List Oper)(I J:List Nat){G:Gh}{E:Env}{s:AS}{a:Act}{w:World},I.map (ops[·]?)=L.map some→AX P Γ N ops L K E s→Rel Γ N G E s a w→
    (∀G' E' s' a' w',G.le G'→Rel Γ N G' E' s' a' w'→K E' s'→wpOpsIn (uo l) 0 P ops Q J a' w')→wpOpsIn (uo l) 0 P ops Q (I++J) a w
  |[],I,J,G,E,s,a,w,hI,h,hr,hq=>by
    have :I=[]:=(by simpa using hI);subst this;exact hq G E s a w (.refl G) hr h
  |o::L,I,J,G,E,s,a,w,hI,h,hr,hq=>by
    cases I with
    |nil=>simp at hI
    |cons i I=>
      simp only[List.map_cons,List.cons.injEq] at hI;exact A5 hI.1 h hr fun G' E' s' a' w' h1 h2 h3=>ib L I J hI.2 h3 h2 fun vp kq iI zB wj k1 k2 k3=>hq vp kq iI zB wj (h1.trans k1) k2 k3
theorem nT{l:Option Nat}{ops:Array Oper}{Q:Exit→Act→World→Prop}{K:Env→AS→Prop}:∀(L:List Oper)(I:List Nat){G:Gh}{E:Env}{s:AS}{a:Act}{w:World},I.map (ops[·]?)=L.map some→AX P Γ N ops L K E s→Rel Γ N G E s a w→
    (∀G' E' s' a' w',G.le G'→Rel Γ N G' E' s' a' w'→K E' s'→Q .normal a' w')→wpOpsIn (uo l) 0 P ops Q I a w
  |[],I,G,E,s,a,w,hI,h,hr,hq=>by
    have :I=[]:=(by simpa using hI);subst this;exact hq G E s a w (.refl G) hr h
  |o::L,I,G,E,s,a,w,hI,h,hr,hq=>by
    cases I with
    |nil=>simp at hI
    |cons i I=>
      simp only[List.map_cons,List.cons.injEq] at hI;exact A5 hI.1 h hr fun G' E' s' a' w' h1 h2 h3=>nT L I hI.2 h3 h2 fun vp kq iI zB wj k1 k2 k3=>hq vp kq iI zB wj (h1.trans k1) k2 k3
theorem lK{l:Option Nat}{id:Nat}{ops:Array Oper}{Q:Exit→Act→World→Prop}{K:Env→AS→Prop}{a:Act}(h:AY P Γ N ops ops.toList K E s)(hr:Rel Γ N G E s a w)
    (hq:∀G' E' s' a' w',G.le G'→Rel Γ N G' E' s' a' w'→K E' s'→Q .normal a' w'):(Code.region id ops false).wpIn (uo l) 0 P Q a w:=by
  rw[ay] at h;refine wpIn_region (nT ops.toList _ ?_ h hr hq);apply List.ext_getElem?;intro i;simp only[List.getElem?_map];by_cases hi:i<ops.size
  · simp[hi]
  · simp[hi]
theorem D7{W:World}{k:Nat}{o o':Obj}(hk:W.heap[k]? =some o)(ho:∀c T f,o≠.cells c T f)(ss:∀c T f,o'≠.cells c T f)(b j:Nat):(W.putObj k o').cell? ⟨b,j,none⟩=W.cell? ⟨b,j,none⟩:=by
  by_cases e:b=k
  · subst e;have h1:=World.putObj_heap_same (w:=W) (o:=o') (Array.getElem?_eq_some_iff.1 hk).1;simp only[World.cell?,h1,hk];cases o<;>cases o'<;>first |rfl|exact absurd rfl (ho _ _ _)|exact absurd rfl (ss _ _ _)
  · exact World.cell?_of_block (World.putObj_heap_other e)
theorem zJ{W:World}{k:Nat}{o o':Obj}(hk:W.heap[k]? =some o)(ho:∀c T f,o≠.cells c T f)(ss:∀c T f,o'≠.cells c T f)(b j:Nat):(W.putObj k o').frozen? ⟨b,j,none⟩=W.frozen? ⟨b,j,none⟩:=by
  by_cases e:b=k
  · subst e;have h1:=World.putObj_heap_same (w:=W) (o:=o') (Array.getElem?_eq_some_iff.1 hk).1;simp only[World.frozen?,h1,hk];cases o<;>cases o'<;>first |rfl|exact absurd rfl (ho _ _ _)|exact absurd rfl (ss _ _ _)
  · exact World.frozen?_of_block (World.putObj_heap_other e)
theorem aP.putObj{W:World}{k:Nat}{o o':Obj}(h:aP Γ G s W)(hk:W.heap[k]? =some o)(ho:∀c T f,o≠.cells c T f)(ss:∀c T f,o'≠.cells c T f)(hB:G.w0.heap.size≤k)(hB':G.B≤k):aP Γ G s (W.putObj k o'):=by
  have hg:W.grownBy (W.putObj k o') (some k):=⟨rfl,rfl,rfl,by simp[World.putObj],fun i _ hi=>World.putObj_heap_other (fun e=>hi (by rw[e]))⟩;refine h.BO (fun b j=>D7 hk ho ss b j) (fun b j _ _=>zJ hk ho ss b j) (by simp[World.putObj]) ?_ ?_ ?_
  · exact(Below.refl _ _).grown hg (by have:=(Array.getElem?_eq_some_iff.1 hk).1;omega) (fun i e=>by cases e;omega)
  · intro i x hi hx;have bJ:=(Array.getElem?_eq_some_iff.1 hi).1;rw[World.putObj_heap_other (by omega)];exact h.others i x hi hx
  · intro b c T lo hi hb hc;by_cases e:b=k
    · subst e;rw[World.putObj_heap_same (Array.getElem?_eq_some_iff.1 hk).1] at hc;cases hc;exact absurd rfl (ss _ _ _)
    · rw[World.putObj_heap_other e] at hc;exact h.soft b c T lo hi hb hc
def Qx(P:Program)(Γ:Nat→List AV)(gf:FuncId)(cd:List AV)(xs:List AV):Prop:=
  ∀(S:Nat→AS)(l:Nat)(G:Gh)(W:World)(lb:List Value),G.df=[]→au G cd lb→aP Γ G (S 0) W→
    (∀i x G1 u W1,xs[i]? =some x→G.le G1→aP Γ G1 (S i) W1→av G1 x u→YieldAt Fence.wide 0 P l #[u] W1 fun e W'=>e=.returned (.bool true)∧∃G2,G1.le G2∧aP Γ G2 (S (i+1)) W')→
    CallsIn Fence.wide 0 P gf (#[.func (.yield l) #[] #[]]++lb.toArray) W fun e W'=>(∃v,e=.returned v)∧∃G2,G.le G2∧aP Γ G2 (S xs.length) W'
theorem xX{a:Act}{g:Operand}{p:Tmp}{assign body:Code}{gf:FuncId}{cd xs:List AV}(hr:Rel Γ N G E s a w)(uA:G.df=[])(hg:aO Γ E g=.qx gf cd)(JQ:ag P gf=true)(JR:Qx P Γ gf cd xs)
    (hp:p<N) (S:Nat→AS) (hS:S 0=s) (E1:AV→Env)
    (N7:∀(l i:Nat)(x:AV)(G1:Gh)(a1:Act)(W:World),xs[i]? =some x→Rel Γ N G1 (aH E p x) (S i) a1 W→
      assign.wpIn (uo (some l)) 0 P (fun e a' W'=>e=.normal∧∃G2,G1.le G2∧Rel Γ N G2 (E1 x) (S i) a' W') a1 W)
    (UK:∀(l i:Nat)(x:AV)(G1:Gh)(a1:Act)(W:World),xs[i]? =some x→Rel Γ N G1 (E1 x) (S i) a1 W→
      body.wpIn (uo (some l)) 0 P (fun e a' W'=>e=.normal∧∃G2,G1.le G2∧aP Γ G2 (S (i+1)) W') a1 W):
    (Code.rangeFunc g #[p] assign body).wpIn Fence.wide 0 P (fun e a' w'=>e=.normal∧∃D G',G.le G'∧w.heap.size≤D∧w'.heap[D]? =some (.deferred (some []))∧
      a'= {a with defers:={target:=.collected D,args:=#[]}::a.defers}∧aP Γ G' (S xs.length) w') a w:=by
  have RW:=hr.eval g;rw[hg] at RW;simp only[av] at RW;obtain⟨lb,hg',RX⟩:=RW;have J8:G.w0.heap.size≤w.heap.size:=hr.st.below.size;have hBw:G.B≤w.heap.size:=hr.st.base;refine wpIn_rangeFunc ?_;intro fn UL;obtain⟨rec,pI⟩:∃rec:LoopState→Option Code→Loop,rec=fun st pe=>{state:=st,pending:=pe,fn,tmps:=a.tmps,params:=#[p],assign,body,defers:=w.heap.size}:=⟨_,rfl⟩;obtain⟨W1,N8⟩:∃W1,(w.alloc (.deferred (some []))).alloc (.loop (rec .ready none))=W1:=⟨_,rfl⟩;have RY:W1.heap[w.heap.size+1]? =some (.loop (rec .ready none)):=by
    rw[←N8];have:=World.alloc_heap_new (w.alloc (.deferred (some []))) (.loop (rec .ready none));rwa [World.size_alloc] at this
  have kh:W1.heap[w.heap.size]? =some (.deferred (some [])):=by
    rw[←N8];exact(Below.heap_alloc _ _ _ (by simp)).trans (World.alloc_heap_new w _)
  have gC:aP Γ G s W1:=by
    rw[←N8];exact(hr.st.alloc _ (by intro c T lo hi e;cases e)).alloc _ (by intro c T lo hi e;cases e)
  refine⟨w.heap.size+1,[{target:=.collected w.heap.size,args:=#[]}],W1,{target:=.fn (.func gf) lb.toArray,args:=#[.func (.yield (w.heap.size+1)) #[] #[]]},W1,gf,
    #[.func (.yield (w.heap.size+1)) #[] #[]]++lb.toArray,W1,?_,?_,?_,?_,(fun e=>by cases e),?_⟩
  · rw[←N8,pI];exact run_enterLoop_outer _ _ _ _ _
  · simp only[resolve,hg'];simp[go_sem]
  · intro f' _;trivial
  · have:=nM (w:=W1) JQ (#[.func (.yield (w.heap.size+1)) #[] #[]]++lb.toArray);simpa[invoke,go_sem] using this
  · have hsW:aP Γ (G.setW W1) s W1:=gC.setW;refine(JR S (w.heap.size+1) (G.setW W1) W1 lb uA (au.sub (G.gq W1) _ _ RX) (hS ▸ hsW) ?_).mono ?_
    · rintro i x G1 u W hx hle h2 hu;have HC:G1.w0=W1:=hle.w0;have RZ:G1.B=G.B:=hle.B;have IQ:dm W1 W:=(by have:=h2.others;rwa [HC] at this);have hl:=IQ _ _ RY (by intros;simp);have hk:=IQ _ _ kh (by intros;simp);have hbW:Below G.B W1 W:=(by have:=h2.below;rwa [HC,RZ] at this);obtain⟨q1,q2⟩:=gC.sv hle h2;have bJ:w.heap.size+1<W.heap.size:=(Array.getElem?_eq_some_iff.1 hl).1;have hy:=run_yield (P:=P) (args:=#[u]) hl (by rw[pI];rfl);rw[pI] at hy;refine⟨fn,_,assign,body,hy,roundIn_of_wpIn UL ?_⟩;have Ks:Rel Γ N ((G1.setW G.w0).setW W) (aH E p x) (S i) {tmps:=((#[p]:Array Tmp).zip #[u]).foldl (fun t(p,v)=>t.setIfInBounds p v) a.tmps,defers:=[]} W:=by
        have e3:((#[p]:Array Tmp).zip #[u]).foldl (fun t(p,v)=>t.setIfInBounds p v) a.tmps=a.tmps.setIfInBounds p u:=(by simp);rw[e3];refine⟨q1.setW,by simp[hr.size],fun k=>?_,by rw[show((G1.setW G.w0).setW W).df=G1.df from rfl,hle.df];exact uA.symm⟩;refine av.sub (G:=G1.setW G.w0) (Gh.gq _ _) _ _ ?_;simp only[aH];split
        · rename_i e;subst e;have :k<a.tmps.size:=(by rw[hr.size];exact hp);simpa[Array.getD,this] using av.sub (G1.gq G.w0) _ _ hu
        · rename_i e;have:=av.mono q2 _ _ (hr.tmps k);simp only[Array.getD_eq_getD_getElem?] at this⊢;rw[Array.getElem?_setIfInBounds_ne (by omega)];exact this
      refine wpIn_mono (N7 (w.heap.size+1) i x _ _ W hx Ks) ?_;rintro e a1 Wa ⟨rfl,Ga,zL,IU⟩;have R3:dm W Wa:=by
        have:=IU.st.others;rwa [show Ga.w0=W from zL.w0] at this
      have hba:Below G.B W Wa:=by
        have:=IU.st.below;rwa [show Ga.w0=W from zL.w0,show Ga.B=G.B from zL.B.trans RZ] at this
      have R4:=R3 _ _ hl (by intros;simp);have xbn:=R3 _ _ hk (by intros;simp);obtain⟨gb1,gb2⟩:=q1.sv zL IU.st;refine⟨_,run_beginRound R4 (by rw[pI]),?_⟩;have Kt:w.heap.size+1<Wa.heap.size:=(Array.getElem?_eq_some_iff.1 R4).1;obtain⟨W2,Ku⟩:∃W2,Wa.putObj (w.heap.size+1) (.loop {rec .ready none with state:=.busy})=W2:=⟨_,rfl⟩;have BM:W2.heap[w.heap.size+1]? =some (.loop {rec .ready none with state:=.busy}):=(by rw[←Ku];exact World.putObj_heap_same Kt);have T4:Ga.B=G.B:=zL.B.trans RZ;have ng:aP Γ (Ga.setW G.w0) (S i) W2:=by
        rw[←Ku];exact gb1.putObj R4 (by intros;simp) (by intros;simp) (by show G.w0.heap.size≤_;omega) (by show Ga.B≤_;omega)
      rw[Ku];have xA:Rel Γ N ((Ga.setW G.w0).setW W2) (E1 x) (S i) a1 W2:=
        ⟨ng.setW,IU.size,fun k=>av.sub (G:=Ga) (G':=(Ga.setW G.w0).setW W2) ⟨rfl,rfl,rfl,rfl⟩ _ _ (IU.tmps k),IU.defers⟩
      refine wpIn_mono (UK (w.heap.size+1) i x _ _ W2 hx xA) ?_;rintro e a3 W3 ⟨rfl,G2,g1,g2⟩;have Qy:G2.w0=W2:=g1.w0;have UM:G2.B=G.B:=g1.B.trans T4;have NT:dm W2 W3:=by
        have:=g2.others;rwa [Qy] at this
      have Nt:Below G.B W2 W3:=by
        have:=g2.below;rwa [Qy,UM] at this
      have IA:=NT _ _ BM (by intros;simp);obtain⟨g3,g4⟩:=ng.sv g1 g2;have qR:(Instr.endRound (w.heap.size+1) none).run P W3=.ok (.bool true) (W3.putObj (w.heap.size+1) (.loop (rec .ready none))):=by
        have:=run_endRound (P:=P) none IA;rw[pI] at this⊢;exact this
      have B6:w.heap.size+1<W3.heap.size:=(Array.getElem?_eq_some_iff.1 IA).1;have Nu:=g3.putObj (o':=.loop (rec .ready none)) IA (by intros;simp) (by intros;simp) (by show G.w0.heap.size≤_;omega) (by show G2.B≤_;omega);have UN:∀(V:World)(o:Obj),w.heap.size+1<V.heap.size→Below G.B V (V.putObj (w.heap.size+1) o):=fun V o hV=>
        (Below.refl _ _).grown (row:=some (w.heap.size+1)) ⟨rfl,rfl,rfl,by simp[World.putObj],fun i _ hi=>World.putObj_heap_other (fun e=>hi (by rw[e]))⟩ (by omega) (fun i e=>by cases e;omega)
      refine⟨_,_,qR,rfl,G2.setW W1,?_,?_⟩
      · exact⟨fun b j v hv=>g1.ro b j v (zL.ro b j v hv),fun o b hb=>g1.obj o b (zL.obj o b hb),fun t e r ht=>g1.tok t e r (zL.tok t e r ht),g1.B.trans zL.B,HC.symm,g1.df.trans zL.df⟩
      · refine Nu.sub (G:=G2.setW G.w0) (G':=G2.setW W1) ⟨rfl,rfl,rfl,rfl⟩ rfl rfl ?_ ?_
        · show Below G2.B W1 _;rw[UM];refine(hbW.trans hba).trans (Below.trans ?_ (Nt.trans (UN _ _ B6)));rw[←Ku];exact UN _ _ Kt
        · intro k o Kv qC;replace Kv:W1.heap[k]? =some o:=Kv;by_cases e:k=w.heap.size+1
          · subst e;rw[RY] at Kv;cases Kv;exact World.putObj_heap_same B6
          · rw[World.putObj_heap_other e];refine NT k o ?_ qC;rw[←Ku,World.putObj_heap_other e];exact R3 k o (IQ k o Kv qC) qC
    · rintro e W2 ⟨⟨v,rfl⟩,G2,h1,h2⟩;have HC:G2.w0=W1:=h1.w0;have IQ:dm W1 W2:=(by have:=h2.others;rwa [HC] at this);have hl:=IQ _ _ RY (by intros;simp);have hk:=IQ _ _ kh (by intros;simp);obtain⟨q1,q2⟩:=gC.sv h1 h2;refine⟨none,_,by have:=run_endLoop (P:=P) hl (by rw[pI];simp);rw[pI] at this;exact this,rfl,w.heap.size,G2.setW G.w0,q2,Nat.le_refl _,(World.putObj_heap_other (by omega)).trans hk,rfl,?_⟩;rw[pI] at hl;exact q1.putObj hl (by intros;simp) (by intros;simp) (by show G.w0.heap.size≤_;omega) (by rw[show(G2.setW G.w0).B=G2.B from rfl,h1.B];show G.B≤_;omega)
theorem oD{f:FuncId}{fn:Func}{c:Code}{args:List AV}{b6:AV→AS→Prop}{s:AS}(hf:P.funcs[f]? =some fn)(hb:fn.body=some c)(hn:args.length≤fn.ntmps)
    (h:∀G a w,G.df=[]→Rel Γ fn.ntmps G (bC args) s a w→c.wpIn Fence.wide 0 P (fun e a' w'=>(e=.normal∨e=.ret)∧∃D G' E' s',G.le G'∧(G.w0.heap.size≤D∧G.B≤D)∧w'.heap[D]? =some (.deferred (some []))∧
      a'.defers=[{target:=.collected D,args:=#[]}]∧Rel Γ fn.ntmps (G'.cI a'.defers) E' s' a' w'∧bt P fn.results.toList b6 E' s') a w):aj P Γ f args s b6:=by
  intro G w vs hs hv;have Qn:=hv.length;refine(callsIn_wide (n:=0)).1 (callsIn_of_wp_marks hf hb trivial ?_);have xA:Rel Γ fn.ntmps (G.cI []) (bC args) s {tmps:=vs.toArray++Array.replicate (fn.ntmps-vs.toArray.size) undef,defers:=[]} w:=by
    refine⟨hs.cI,by simp;omega,fun i=>?_,rfl⟩;simp only[bC];by_cases hi:i<args.length
    · obtain⟨u,h1,h2⟩:=hv.getD i hi;have aY:i<vs.length:=(by omega);rw[Array.getD_eq_getD_getElem?,Array.getElem?_append_left (by simpa using aY)];simp only[List.getElem?_toArray,h1,Option.getD_some];exact av.cI _ _ h2
    · have e1:args.getD i (.v undef)=.v undef:=(by simp[List.getD,List.getElem?_eq_none (Nat.le_of_not_lt hi)]);rw[e1,Array.getD_eq_getD_getElem?,Array.getElem?_append_right (by simp;omega)];simp only[av];cases hh:(Array.replicate (fn.ntmps-vs.toArray.size) undef)[i-vs.toArray.size]? with
      |none=>rfl
      |some u=>
        rw[Array.getElem?_replicate] at hh;split at hh
        · cases hh;rfl
        · cases hh
  refine wpIn_mono (h _ _ w rfl xA) ?_;rintro e a' w' ⟨he,D,G',E',s',h1,hD,hk,uA,h2,h3⟩;have J8:G'.w0.heap.size≤D:=by
    rw[h1.w0];exact hD.1
  have hB:G'.B≤D:=by
    rw[h1.B];exact hD.2
  have fin:LeavesInM Fence.wide 0 P fn a'.tmps (fun e w'=>∃G' r v s',e=.returned v∧G.le G'∧aP Γ G' s' w'∧av G' r v∧b6 r s') a'.defers .returning w':=by
    rw[uA];refine⟨by simp,.inl ⟨D,_,rfl,run_takeDeferred hk,?_⟩⟩;have h4:Rel Γ fn.ntmps (G'.cI a'.defers) E' s' a' (w'.putObj D (.deferred none)):=⟨h2.st.putObj hk (by intros;simp) (by intros;simp) J8 hB,h2.size,h2.tmps,h2.defers⟩;unfold bt at h3;split at h3
    · rename_i Nn Ft;obtain⟨r,s2,q1,q2,q3⟩:=h3;obtain⟨zs,r1,r2⟩:=qh h4 Ft;refine⟨if h:zs.toArray.size=1 then zs.toArray[0] else .tuple zs.toArray,?_,G'.cI G.df,r,_,s2,rfl,Gh.xj h1,(h4.st.mono q2).cI (d:=G.df),av.cI (G:=G'.cI a'.defers) (d:=G.df) _ _ (q1 _ _ (rA r2)),q3⟩;rw[lG,Array.mapM_eq_mapM_toList];simp only[Sem.run_bind,Sem.run_map,r1,Result.andThen_ok,Sem.run_pure]
    · exact h3.elim
  rcases he with rfl|rfl
  · exact fin
  · exact fin
theorem cp.wide{c:Code}{Q:Exit→Env→AS→Prop}{a:Act}(h:cp P Γ N c Q E s)(hr:Rel Γ N G E s a w){R:Exit→Act→World→Prop}
    (hq:∀e G' E' s' a' w',G.le G'→Rel Γ N G' E' s' a' w'→Q e E' s'→R e a' w'):c.wpIn Fence.wide 0 P R a w:=
  wpIn_mono (F:=uo none) (n:=0) (h G a w hr) fun e a' w' ⟨G',E',s',h1,h2,h3,_⟩=>hq e G' E' s' a' w' h1 h2 h3
theorem cp.behind{c:Code}{Q:Exit→Env→AS→Prop}{a:Act}{G':Gh}{D:Nat}{s':AS}{w':World}(hr:Rel Γ N G E s a w)(hle:G.le G')(hk:w'.heap[D]? =some (.deferred (some [])))(hs:aP Γ G' s' w')(uA:G.df=[])
    (h:cp P Γ N c Q E s') {R:Exit→Act→World→Prop}
    (hq:∀e vp kq iI zB wj,G.le vp→wj.heap[D]? =some (.deferred (some []))→zB.defers=[{target:=.collected D,args:=#[]}]→Rel Γ N (vp.cI zB.defers) kq iI zB wj→Q e kq iI→R e zB wj):
    c.wpIn Fence.wide 0 P R {a with defers:={target:=.collected D,args:=#[]}::a.defers} w':=by
  have ha:a.defers=[]:=hr.defers.trans uA;have xA:Rel Γ N ((G'.cI [{target:=.collected D,args:=#[]}]).setW w') E s' {a with defers:={target:=.collected D,args:=#[]}::a.defers} w':=
    ⟨(hs.cI).setW,hr.size,fun i=>av.sub (Gh.gq _ _) _ _ (av.cI _ _ (av.mono hle _ _ (hr.tmps i))),by rw[ha];rfl⟩
  refine h.wide xA ?_;intro e G2 E2 s2 a2 w2 g1 g2 g3;have NT:dm w' w2:=by
    have:=g2.st.others;rwa [show G2.w0=w' from g1.w0] at this
  have N9:a2.defers=[{target:=.collected D,args:=#[]}]:=g2.defers.trans g1.df;have hb:=aP.sv (G:=G'.cI [{target:=.collected D,args:=#[]}]) hs.cI g1 g2.st;refine hq e (((G2.setW G'.w0)).cI G'.df) E2 s2 a2 w2 ?_ (NT _ _ hk (by intros;simp)) N9 ?_ g3
  · refine hle.trans ?_;exact⟨hb.2.ro,hb.2.obj,hb.2.tok,hb.2.B,hb.2.w0,rfl⟩
  · refine⟨?_,g2.size,fun i=>?_,rfl⟩
    · exact hb.1.cI (d:=a2.defers)
    · exact av.sub (G:=G2) (G':=((G2.setW G'.w0).cI G'.df).cI a2.defers) ⟨rfl,rfl,rfl,rfl⟩ _ _ (g2.tmps i)
end Go.AM
namespace Go.AM
open Go Go.RowKit
variable{rd:Option Nat}{P:Program}{Γ:Nat→List AV}{G:Gh}{s:AS}{w:World}
theorem wo{n:Nat}{T xT e:TypeId}(hT:P.underlying T=some (.slice e)){k:IntKind}(hx:P.underlying xT=some (.int k)){z:List AV}(he:px P e z)
    (h0:n≠0) (cu:n*P.bytesOf e≤2^46) (Db:n≤2^46) (ty:TypeId):
    ∃(cap:Nat)(us:List Value),n≤cap∧us.length=cap*P.cellsOf e∧
      (Builtin.append_ #[T,xT] ty #[.slice none 0 0,.int .i64 n]).run P w=.ok (.slice (some ⟨w.heap.size,0,none⟩) n cap) (w.drew.alloc (.cells us.toArray e)):=by
  obtain⟨hz,eR,sA⟩:=he;obtain⟨zv,JP,xp⟩:=dA hz;obtain⟨i,hi⟩:=eQ eR;have hb:P.bytesOf e=i.bytes:=(by simp[Program.bytesOf,hi]);have Hp:∀w',(typeInfo e).run P w'=.ok i w':=(fun w'=>by simp[typeInfo,hi]);have um:=nextslicecap_le (need:=n) (old:=0) (by omega);have nL:¬(2^48<Builtin.nextslicecap n 0*i.bytes):=by
    rw[hb] at cu;have h2:Builtin.nextslicecap n 0*i.bytes≤2*n*i.bytes:=Nat.mul_le_mul_right _ um;rw[Nat.mul_assoc] at h2;omega
  have UO:zv.cells.size=P.cellsOf e:=by
    rw[xp] at sA;simpa using sA
  have hw:IntKind.i64.wrap (n:Int)=n:=IntWalk.i64_in _ (by omega);have zz:¬((n:Int)<0):=(by omega);have dK:¬(n*P.cellsOf e=0):=by
    intro h;rcases Nat.mul_eq_zero.1 h with h|h
    · exact h0 h
    · exact eR h
  have ID:¬((281474976710656:Int)<(n:Int)*(i.bytes:Int)):=by
    rw[hb] at cu;have :((n*i.bytes:Nat):Int)≤((2^46:Nat):Int):=Int.ofNat_le.2 cu;rw[Int.natCast_mul] at this;omega
  have nK:¬(9223372036854775807<(n:Int)):=(by omega);refine⟨_,(Builtin.zeroCells zv.cells n++Builtin.zeroCells zv.cells ((Question.appendCap n 0 e).cut (w.tape w.drawn (.appendCap n 0 e))-n)).toList,eS n 0 e (w.tape w.drawn (.appendCap n 0 e)),?_,?_⟩
  · have:=eS n 0 e (w.tape w.drawn (.appendCap n 0 e));simp only[Builtin.zeroCells,Array.toList_append,List.length_append,Array.length_toList,UO];simp[UO];rw[←Nat.add_mul];congr 1;omega
  · have hf:(Question.appendCap n 0 e).forced=false:=rfl;have hgt:¬(n≤0):=(by omega);simp[Builtin.append_,run_underlying hT,aS eR,run_underlying hx,asInt,asIntOf,hw,zz,Hp,ID,nK,nL,hf,JP,newRow,dK,h0,Builtin.firstCells];congr 2;apply Array.ext';simp
theorem B7{N:Nat}{E:Env}{Q:Exit→Env→AS→Prop}{id:Nat}(L1 L2 L3:List Oper){oa os:Oper}{T xT e ty:TypeId}{k:IntKind}{x y h:Operand}{d1 d2:Tmp}{z:List AV}
    (hoa:oa.op=.call {callee:=.builtin .append,args:=#[x,y],argTypes:=#[T,xT]}) (UQ:oa.guard=none) (UR:oa.dst=some d1) (R5:d1<N)
    (hos:os.op=.slice ty (.tmp d1) none (some h) none) (hgs:os.guard=none) (Qo:os.dst=some d2) (N9:d2<N)
    (hT:P.underlying T=some (.slice e)) (hty:P.underlying ty=some (.slice e)) (hx:P.underlying xT=some (.int k)) (he:px P e z) (wX:P.cellsOf e=1)
    (hh:AY P Γ N (L1++oa::(L2++os::L3)).toArray L1 (fun E1 s1=>aO Γ E1 x=.v (.slice none 0 0)∧∃n:Nat,aO Γ E1 y=.v (.int .i64 n)∧n≠0∧n*P.bytesOf e≤2^46∧n≤2^46∧
      ∀t v,s1.own t=none→AY P Γ N (L1++oa::(L2++os::L3)).toArray L2 (fun E2 s2=>E2 d1=.v v∧aO Γ E2 h=.v (.int .i64 0)∧
        AY P Γ N (L1++oa::(L2++os::L3)).toArray L3 (fun E' s'=>Q .normal E' s') (aH E2 d2 (.sl 1 0 [] (.own t 0))) s2) (aH E1 d1 (.v v)) (s1.bw t 0)) E s):
    cp P Γ N (.region id (L1++oa::(L2++os::L3)).toArray false) Q E s:=by
  generalize xbr:(L1++oa::(L2++os::L3)).toArray=ops at hh⊢;rw[ay] at hh;intro G a w hr;refine wpIn_region ?_;have bT:∀ops:Array Oper,(List.range ops.size).map (ops[·]?)=ops.toList.map some:=by
    intro ops;apply List.ext_getElem?;intro i;simp only[List.getElem?_map];by_cases hi:i<ops.size
    · simp[hi]
    · simp[hi]
  have pH:=bT ops;generalize hI:List.range ops.size=I at pH;have gP:ops.toList=L1++oa::(L2++os::L3):=(by rw[←xbr]);rw[gP] at pH;have Kw:∀(I:List Nat)(A:List Oper)(o:Oper)(B:List Oper),I.map (ops[·]?)=(A++o::B).map some→∃I1 i I2,I=I1++i::I2∧I1.map (ops[·]?)=A.map some∧ops[i]? =some o∧I2.map (ops[·]?)=B.map some:=by
    intro I A o B hm;have h1:(I.take A.length).map (ops[·]?)=A.map some:=(by rw[List.map_take,hm];simp);have h2:(I.drop A.length).map (ops[·]?)=(o::B).map some:=(by rw[List.map_drop,hm];simp);generalize US:I.drop A.length=J at h2;cases J with
    |nil=>simp at h2
    |cons i I2=>
      simp only[List.map_cons,List.cons.injEq] at h2;exact⟨I.take A.length,i,I2,by rw[←US,List.take_append_drop],h1,h2.1,h2.2⟩
  obtain⟨I1,i1,J,rfl,m1,mo1,mJ⟩:=Kw I L1 oa (L2++os::L3) pH;obtain⟨I2,i2,I3,rfl,m2,mo2,m3⟩:=Kw J L2 os L3 mJ;refine dV L1 I1 (i1::(I2++i2::I3)) m1 (dH _ hh) hr ?_;rintro G1 E1 s1 a1 w1 gg qQ ⟨⟨hxe,n,hye,hn0,hnb,xbs,hk⟩,B4⟩;rw[wpOpsIn_cons];simp only[wpOpIn,mo1];rw[if_pos (dX UQ)];have ph:=qQ.eval x;rw[hxe] at ph;have wh:=qQ.eval y;rw[hye] at wh;simp only[av] at ph wh;obtain⟨cap,us,gu,kN,lA⟩:=wo (P:=P) (w:=w1) hT hx he hn0 hnb xbs oa.type;have hto:s1.own G1.nt=none:=qQ.st.gG (Nat.le_refl _);obtain⟨G2,g1,g2,g3,g4,g5,g6⟩:=qQ.st.drew.pr [] us e G1.nt 0 (fun e' _=>qQ.st.b7 _ (Nat.le_refl _) e');simp only[List.nil_append,List.length_nil] at g2 g4;rw[kN,wX,Nat.mul_one] at g4;have hk:=hk G1.nt (.slice (some ⟨w1.heap.size,0,none⟩) n cap) hto;have UT:(execOp a1.eval oa).run P w1=.ok (.value (.slice (some ⟨w1.heap.size,0,none⟩) n cap)) (w1.drew.alloc (.cells us.toArray e)):=by
    rw[cZ hoa];simp[builtin,ph,wh,lA]
  refine⟨fun _ _=>trivial,?_⟩;rw[Oper.semAt_eq _ _ _ (UD UT)];rw[UT];simp only[Oper.uponIn];have qS:=qQ.put (dst:=oa.dst) g1 g2 (r:=.v (.slice (some ⟨w1.heap.size,0,none⟩) n cap)) (v:=.slice (some ⟨w1.heap.size,0,none⟩) n cap) (by simp[av]) (by intro d hd;rw[UR] at hd;cases hd;exact R5);rw[UR] at qS⊢;simp only[bx] at qS;refine dV L2 I2 (i2::I3) m2 (dH _ hk) qS ?_;rintro G3 E3 s3 a3 w3 Qw qR ⟨⟨hd,hhe,UU⟩,R6⟩;rw[wpOpsIn_cons];simp only[wpOpIn,mo2];rw[if_pos (dX hgs)];have Qz:=qR.tmps d1;rw[hd] at Qz;have hhr:=qR.eval h;rw[hhe] at hhr;simp only[av] at Qz hhr;have hb:=cQ (P:=P) (isSlice:=true) (len:=n) (cap:=cap) (l:=0) (h:=0) (lo:=none) (hi:=some (.int .i64 0)) (.inl ⟨rfl,rfl⟩) (.inr ⟨_,rfl⟩) (Int.le_refl 0) (Int.le_refl 0) (by omega) w3;have Fv:P.cellsOf e≠0:=he.2.1;have UW:(Instr.sliceAt ty (.slice (some ⟨w1.heap.size,0,none⟩) n cap) none (some (.int .i64 0)) none).run P w3=.ok (.slice (some ⟨w1.heap.size,0,none⟩) 0 cap) w3:=by
    rw[eT hty];simp[Instr.slice,run_underlying hty,hb,aS Fv,Addr.add]
  have hex:(execOp a3.eval os).run P w3=.ok (.value (.slice (some ⟨w1.heap.size,0,none⟩) 0 cap)) w3:=by
    obtain⟨dst,op,type,pos,after,guard⟩:=os;simp only at hos;subst hos;have e1:a3.eval (.tmp d1)=.slice (some ⟨w1.heap.size,0,none⟩) n cap:=Qz;simp[execOp,e1,hhr,UW]
  refine⟨fun _ _=>trivial,?_⟩;rw[Oper.semAt_eq _ _ _ (UD hex)];rw[hex];simp only[Oper.uponIn];have Dd:=qR.put (dst:=os.dst) (Gh.le.refl G3) qR.st (r:=.sl 1 0 [] (.own G1.nt 0)) (v:=.slice (some ⟨w1.heap.size,0,none⟩) 0 cap) (by
    simp only[av];refine .inl ⟨w1.heap.size,0,cap,[],rfl,by simp,by omega,by simp[au],fun j u hj=>by simp at hj,?_⟩;simp only[ep,Nat.zero_mul,Nat.add_zero,Nat.zero_add,Nat.mul_one];have:=Qw.tok _ _ _ g4;simpa using this) (by intro d UI;rw[Qo] at UI;cases UI;exact N9)
  rw[Qo] at Dd⊢;simp only[bx] at Dd;refine lD L3 I3 m3 (dH _ UU) Dd ?_;rintro G5 E5 s5 a5 w5 hG5 Oa ⟨hk5,xbu⟩;refine⟨G5,E5,s5,gg.trans (g1.trans (Qw.trans hG5)),Oa,hk5,?_⟩;intro i hi;have mem:∀L:List Oper,i∈cq L↔∃o∈L,o.dst=some i:=(fun L=>by simp[cq,List.mem_filterMap]);simp only[writes] at hi;rw[gP] at hi;have aY:¬∃o'∈L1++oa::(L2++os::L3),o'.dst=some i:=fun hm=>hi ((mem _).2 hm);have q1:i∉cq L1:=fun hm=>aY (by obtain⟨o,k1,k2⟩:=(mem _).1 hm;exact⟨o,by simp[k1],k2⟩);have q2:i∉cq L2:=fun hm=>aY (by obtain⟨o,k1,k2⟩:=(mem _).1 hm;exact⟨o,by simp[k1],k2⟩);have q3:i∉cq L3:=fun hm=>aY (by obtain⟨o,k1,k2⟩:=(mem _).1 hm;exact⟨o,by simp[k1],k2⟩);have q4:i≠d1:=fun e=>aY ⟨oa,by simp,by rw[e];exact UR⟩;have q5:i≠d2:=fun e=>aY ⟨os,by simp,by rw[e];exact Qo⟩;rw[xbu i q3,gS _ _ q5,R6 i q2,gS _ _ q4,B4 i q1]
theorem xY{N:Nat}{E:Env}{Q:Exit→Env→AS→Prop}{id:Nat}{o1 o2 o3 o4 o5 oa o7 o8 os sn:Oper}{T xT e ty:TypeId}{k:IntKind}{x y h:Operand}{d1 d2:Tmp}{z:List AV}
    (hoa:oa.op=.call {callee:=.builtin .append,args:=#[x,y],argTypes:=#[T,xT]}) (UQ:oa.guard=none) (UR:oa.dst=some d1) (R5:d1<N)
    (hos:os.op=.slice ty (.tmp d1) none (some h) none) (hgs:os.guard=none) (Qo:os.dst=some d2) (N9:d2<N)
    (hT:P.underlying T=some (.slice e)) (hty:P.underlying ty=some (.slice e)) (hx:P.underlying xT=some (.int k)) (he:px P e z) (wX:P.cellsOf e=1)
    (hh:∀ops:Array Oper,AY P Γ N ops [o1,o2,o3,o4,o5] (fun E1 s1=>aO Γ E1 x=.v (.slice none 0 0)∧∃n:Nat,aO Γ E1 y=.v (.int .i64 n)∧n≠0∧n*P.bytesOf e≤2^46∧n≤2^46∧
      ∀t v,s1.own t=none→AY P Γ N ops [o7,o8] (fun E2 s2=>E2 d1=.v v∧aO Γ E2 h=.v (.int .i64 0)∧
        AY P Γ N ops [sn] (fun E' s'=>Q .normal E' s') (aH E2 d2 (.sl 1 0 [] (.own t 0))) s2) (aH E1 d1 (.v v)) (s1.bw t 0)) E s):
    cp P Γ N (.region id #[o1,o2,o3,o4,o5,oa,o7,o8,os,sn] false) Q E s:=
  B7 [o1,o2,o3,o4,o5] [o7,o8] [sn] hoa UQ UR R5 hos hgs Qo N9 hT hty hx he wX (hh _)
def dS(s:AS)(l:List UInt8)(r:AV)(s':AS):Prop:=
  s.le s'∧((l=[]∧r=.v (.slice none 0 0))∨∃t e,s.own t=none∧s'.own t=some e∧r=.sl 1 l.length (l.map ai) (.own t e))
theorem dS.nil(s:AS):dS s [] (.v (.slice none 0 0)) s:=⟨AS.le.refl s,.inl ⟨rfl,rfl⟩⟩
theorem dS.aB{s s':AS}{l:List UInt8}{r:AV}(h:dS s l r s'):r.aB (al l .any):=by
  rcases h.2 with⟨rfl,rfl⟩|⟨t,e,_,_,rfl⟩
  · exact AV.aN
  · exact AV.bQ
theorem zM(l:List UInt8):(l.map ai).all AV.one=true:=by
  rw[List.all_eq_true];intro x hx;obtain⟨n,_,rfl⟩:=List.mem_map.1 hx;rfl
theorem dk{e:TypeId}{K:AV→AS→Prop}{s s1:AS}{l ds:List UInt8}{r:AV}{m:Nat}{cs:List AV}(h:dS s l r s1)(hm:m=ds.length)(Fv:cs=ds.map ai)(he:P.cellsOf e=1)(hb:P.bytesOf e=1)(hlen:l.length+ds.length≤2^45)
    (hk:∀r2 s2,dS s (l++ds) r2 s2→K r2 s2):fI P e r m cs s1 K:=by
  subst hm Fv;rcases h.2 with⟨rfl,rfl⟩|⟨t,g,h1,h2,rfl⟩
  · rw[pD];split
    · rename_i h0;have :ds=[]:=List.eq_nil_of_length_eq_zero h0;subst this;exact hk _ _ h
    · rename_i h0;rw[he,hb];simp only[List.length_nil,Nat.zero_add] at hlen;refine⟨by omega,by omega,fun t ht=>hk _ _ ?_⟩;refine⟨AS.bj h.1 ?_ 0,.inr ⟨t,0,?_,AS.jf _ _ _,by simp⟩⟩;all_goals
        cases hs:s.own t with
        |none=>rfl
        |some g=>rw[h.1.own t g hs] at ht;cases ht
  · rw[pE];split
    · rename_i h0;have :ds=[]:=List.eq_nil_of_length_eq_zero h0;subst this;exact hk _ _ (by simpa using h)
    · rename_i h0;rw[he,hb];refine⟨rfl,by omega,by omega,zM ds,h2,hk _ _ ?_⟩;exact⟨AS.bj h.1 h1 _,.inr ⟨t,g+1,h1,AS.jf _ _ _,by simp⟩⟩
end Go.AM
namespace Go.AM
open Go Go.RowKit
variable{P:Program}{Γ:Nat→List AV}{G:Gh}{s:AS}{w:World}{N:Nat}{E:Env}
theorem B8{ρ:Operand→Value}{o:Oper}{f x:Operand}{ts:Array TypeId}{l:Nat}(ho:o.op=.call {callee:=.value f,args:=#[x],argTypes:=ts})(hf:ρ f=.func (.yield l) #[] #[]):
    (execOp ρ o).run P w=(Instr.yield l #[ρ x]).run P w:=by
  obtain⟨dst,op,type,pos,after,guard⟩:=o;simp only at ho;subst ho;simp[execOp,resolve,hf,Deferred.ofValue,invoke]
theorem A6(ops:Array Oper):(List.range ops.size).map (ops[·]?)=ops.toList.map some:=by
  apply List.ext_getElem?;intro i;simp only[List.getElem?_map];by_cases hi:i<ops.size
  · simp[hi]
  · simp[hi]
theorem A7{ops:Array Oper}{I:List Nat}{A B:List Oper}{o:Oper}(hm:I.map (ops[·]?)=(A++o::B).map some):∃I1 i I2,I=I1++i::I2∧I1.map (ops[·]?)=A.map some∧ops[i]? =some o∧I2.map (ops[·]?)=B.map some:=by
  have h1:(I.take A.length).map (ops[·]?)=A.map some:=(by rw[List.map_take,hm];simp);have h2:(I.drop A.length).map (ops[·]?)=(o::B).map some:=(by rw[List.map_drop,hm];simp);generalize US:I.drop A.length=J at h2;cases J with
  |nil=>simp at h2
  |cons i I2=>
    simp only[List.map_cons,List.cons.injEq] at h2;exact⟨I.take A.length,i,I2,by rw[←US,List.take_append_drop],h1,h2.1,h2.2⟩
theorem xZ{l id:Nat}(L1 L2:List Oper){o:Oper}{f x:Operand}{ts:Array TypeId}{a:Act}{Q:Exit→Act→World→Prop}{K1:Env→AS→Prop}{K2:Env→AS→Prop}
    (ho:o.op=.call {callee:=.value f,args:=#[x],argTypes:=ts}) (hg:o.guard=none) (hd:∀d,o.dst=some d→d<N)
    (h1:AY P Γ N (L1++o::L2).toArray L1 (fun E1 s1=>aO Γ E1 f=.v (.func (.yield l) #[] #[])∧K1 E1 s1) E s) (hr:Rel Γ N G E s a w)
    (hy:∀G1 E1 s1 a1 w1,G.le G1→Rel Γ N G1 E1 s1 a1 w1→K1 E1 s1→YieldAt Fence.wide 0 P l #[a1.eval x] w1 fun e W'=>e=.returned (.bool true)∧∃G2 s2,G1.le G2∧aP Γ G2 s2 W'∧
      AY P Γ N (L1++o::L2).toArray L2 K2 (bx E1 o.dst (.v (.bool true))) s2)
    (hq:∀G' E' s' a' w',G.le G'→Rel Γ N G' E' s' a' w'→K2 E' s'→Q .normal a' w'):(Code.region id (L1++o::L2).toArray false).wpIn Fence.wide 0 P Q a w:=by
  rw[ay] at h1;refine wpIn_region ?_;have pH:=A6 (L1++o::L2).toArray;generalize List.range (L1++o::L2).toArray.size=I at pH⊢;obtain⟨I1,i,I2,rfl,m1,mo,m2⟩:=A7 (A:=L1) (B:=L2) (o:=o) pH;refine ib (l:=none) L1 I1 (i::I2) m1 h1 hr ?_;rintro G1 E1 s1 a1 w1 gg qQ ⟨hf,Fy⟩;have IV:=qQ.eval f;rw[hf] at IV;simp only[av] at IV;obtain⟨fn,tmps,assign,body,q1,q2⟩:=hy G1 E1 s1 a1 w1 gg qQ Fy;simp only[wpOpsIn,mo];rw[if_pos (dX hg)];refine⟨fun _ _=>trivial,?_⟩;rw[Oper.semAt_eq _ _ _ (by intro c;rw[ho];simp),B8 ho IV,q1];rw[Oper.uponIn_round];refine⟨fun e=>(by cases e),RoundIn.mono (F:=Fence.wide) q2 ?_⟩;rintro e W' ⟨rfl,G2,s2,g1,g2,g3⟩;rw[ay] at g3;have qS:Rel Γ N G2 E1 s2 a1 W':=⟨g2,qQ.size,fun i=>av.mono g1 _ _ (qQ.tmps i),qQ.defers.trans g1.df.symm⟩;have qR:=qS.put (dst:=o.dst) (Gh.le.refl G2) g2 (r:=.v (.bool true)) (v:=.bool true) (by simp[av]) hd;exact nT (l:=none) L2 I2 m2 g3 qR fun G3 E3 s3 a3 w3 h3 qR hk=>hq G3 E3 s3 a3 w3 (gg.trans (g1.trans h3)) qR hk
theorem uB{l id:Nat}{o1 o2 o3 o4 o5 o6 o7 o8 o9 sn o x8:Oper}{f x:Operand}{ts:Array TypeId}{a:Act}{Q:Exit→Act→World→Prop}(K1 K2:Env→AS→Prop)
    (ho:o.op=.call {callee:=.value f,args:=#[x],argTypes:=ts}) (hg:o.guard=none) (hd:∀d,o.dst=some d→d<N)
    (h1:∀ops,AY P Γ N ops [o1,o2,o3,o4,o5,o6,o7,o8,o9,sn] (fun E1 s1=>aO Γ E1 f=.v (.func (.yield l) #[] #[])∧K1 E1 s1) E s) (hr:Rel Γ N G E s a w)
    (hy:∀ops G1 E1 s1 a1 w1,G.le G1→Rel Γ N G1 E1 s1 a1 w1→K1 E1 s1→YieldAt Fence.wide 0 P l #[a1.eval x] w1 fun e W'=>e=.returned (.bool true)∧∃G2 s2,G1.le G2∧aP Γ G2 s2 W'∧
      AY P Γ N ops [x8] K2 (bx E1 o.dst (.v (.bool true))) s2)
    (hq:∀G' E' s' a' w',G.le G'→Rel Γ N G' E' s' a' w'→K2 E' s'→Q .normal a' w'):(Code.region id #[o1,o2,o3,o4,o5,o6,o7,o8,o9,sn,o,x8] false).wpIn Fence.wide 0 P Q a w:=
  xZ (K1:=K1) (K2:=K2) [o1,o2,o3,o4,o5,o6,o7,o8,o9,sn] [x8] ho hg hd (h1 _) hr (hy _) hq
theorem Rel.entry{args:List AV}{vs:List Value}(hs:aP Γ G s w)(hv:au G args vs)(hn:args.length≤N)(uA:G.df=[]):
    Rel Γ N G (bC args) s {tmps:=vs.toArray++Array.replicate (N-vs.toArray.size) undef,defers:=[]} w:=by
  have Qn:=hv.length;refine⟨hs,by simp;omega,fun i=>?_,uA.symm⟩;simp only[bC];by_cases hi:i<args.length
  · obtain⟨u,h1,h2⟩:=hv.getD i hi;have aY:i<vs.length:=(by omega);rw[Array.getD_eq_getD_getElem?,Array.getElem?_append_left (by simpa using aY)];simp only[List.getElem?_toArray,h1,Option.getD_some];exact h2
  · have e1:args.getD i (.v undef)=.v undef:=(by simp[List.getD,List.getElem?_eq_none (Nat.le_of_not_lt hi)]);rw[e1,Array.getD_eq_getD_getElem?,Array.getElem?_append_right (by simp;omega)];simp only[av];cases hh:(Array.replicate (N-vs.toArray.size) undef)[i-vs.toArray.size]? with
    |none=>rfl
    |some u=>
      rw[Array.getElem?_replicate] at hh;split at hh
      · cases hh;rfl
      · cases hh
end Go.AM
namespace Go.AM
open Go Go.RowKit
variable{P:Program}{Γ:Nat→List AV}{N:Nat}
theorem gZ.trans{E E' kq:Env}{s s' iI:AS}(h:gZ Γ N E s E' s')(k:gZ Γ N E' s' kq iI):gZ Γ N E s kq iI:=by
  intro G a w hr;obtain⟨G1,h1,h2⟩:=h G a w hr;obtain⟨G2,k1,k2⟩:=k G1 a w h2;exact⟨G2,h1.trans k1,k2⟩
theorem ic{E:Env}{s:AS}{Q:Exit→Env→AS→Prop}(d1 d2:Nat){id:Nat}{L:List Oper}{y:Code}(R5:d1∈cq L)(N9:d2∈cq L)(dK:d1≠d2)
    (h:∀K:Env→AS→Prop,(∀E s o1 o2 QA NY,E d1=.ptr o1 0→E d2=.ptr o2 0→s.aw o1=none→(s.set o1 QA).aw o2=none→cp P Γ N y Q (aH (aH E d2 (.dr NY)) d1 (.dr QA)) s→K E ((s.set o1 QA).set o2 NY))→AY P Γ N L.toArray L K E s):
    cp P Γ N (.seq (.region id L.toArray false) y) Q E s:=by
  refine kQ (m6 ?_);have:=h (fun E' s'=>∃kq iI,gZ Γ N E' s' kq iI∧(∀i,i∉cq L→kq i=E' i)∧az (cp P Γ N y Q) Q .normal kq iI) ?_
  · rw[ay] at this;simpa using this
  · intro E' s' o1 o2 QA NY h1 h2 h3 h4 h5;refine⟨aH (aH E' d2 (.dr NY)) d1 (.dr QA),s',?_,?_,h5⟩
    · have g1:=gZ.m9 (Γ:=Γ) (N:=N) (E:=E') (s:=(s'.set o1 QA).set o2 NY) (d:=d2) h2 (AS.ae _ _ _);rw[AS.drop_set h4] at g1;have g2:=gZ.m9 (Γ:=Γ) (N:=N) (E:=aH E' d2 (.dr NY)) (s:=s'.set o1 QA) (d:=d1) (by rw[gS _ _ dK];exact h1) (AS.ae _ _ _);rw[AS.drop_set h3] at g2;exact g1.trans g2
    · intro i hi;rw[gS _ _ (fun e=>hi (by rw[e];exact R5)),gS _ _ (fun e=>hi (by rw[e];exact N9))]
theorem AS.Kx{s:AS}{o:Nat}{cs:List AV}(h:s.aw o=some cs):s.set o cs=s:=by
  cases s with
  |mk aw own=>
    simp only[AS.set,AS.mk.injEq,and_true];funext i;simp only[aH];split
    · rename_i e;subst e;exact h.symm
    · rfl
end Go.AM
namespace Go.AM
open Go Go.RowKit
variable{P:Program}{Γ:Nat→List AV}{G:Gh}{s:AS}{w:World}
theorem B9{ρ:Operand→AV}{ρ':Operand→Value}{o:Oper}{src dst e:TypeId}{x:Operand}{l:List UInt8}(ho:o.op=.convert src dst x)(Fp:P.underlying src=some .string)(Fq:P.underlying dst=some (.slice e))(he:P.underlying e=some (.int .u8))
    (hx:ρ x=.v (.string ⟨l.toArray⟩)) (hρ:∀x,av G (ρ x) (ρ' x)) (hs:aP Γ G s w):
    dn P Γ G (fun r s'=>dS s l r s') ((execOp ρ' o).run P w):=by
  have ph:=hρ x;rw[hx] at ph;simp only[av] at ph;obtain⟨cap,hle,lA⟩:=mw (P:=P) e (⟨l.toArray⟩:ByteArray) w;have eR:(⟨l.toArray⟩:ByteArray).size=l.length:=rfl;have Fs:(⟨l.toArray⟩:ByteArray).data.toList=l:=rfl;rw[eR] at hle lA;rw[Fs] at lA;have hto:s.own G.nt=none:=hs.gG (Nat.le_refl _);obtain⟨G',h1,h2,h3,h4⟩:=hs.stringToBytes e l (cap-l.length) cap (by omega) G.nt 0 (fun e' _=>hs.b7 _ (Nat.le_refl _) e');have hr:(convert src dst (ρ' x)).run P w=.ok (.slice (some ⟨w.heap.size,0,none⟩) l.length cap) ((w.drew.alloc (.cells (du l++fW (cap-l.length)).toArray e)).freeze ⟨w.heap.size,cap,none⟩ 1):=by
    rw[ph,←lA];simp[convert,run_underlying Fp,run_underlying Fq,run_underlying he]
  refine(show execOp ρ' o=(do pure (.value (←convert src dst (ρ' x)))) by
    obtain⟨d,op,type,pos,after,guard⟩:=o;simp only at ho;subst ho;rfl) ▸ dB ⟨G',_,_,.sl 1 l.length (l.map ai) (.own G.nt 0),s.bw G.nt 0,hr,h1,h2,?_,AS.bj (AS.le.refl s) hto 0,.inr ⟨G.nt,0,hto,AS.jf _ _ _,rfl⟩⟩
  simp only[av];exact .inl ⟨w.heap.size,0,cap,du l,rfl,by simp,hle,mr _,h3,by simpa[ep] using h4⟩
theorem Ca{N:Nat}{E:Env}{Q:Exit→Env→AS→Prop}{id:Nat}{L2:List Oper}{o1 o:Oper}{code:Code}(hg:o.guard=none)(hd:∀d,o.dst=some d→d<N)
    (h:∀ops,AY P Γ N ops [o1] (fun E1 s1=>∃K1:AV→AS→Prop,(∀G a w,Rel Γ N G E1 s1 a w→dn P Γ G K1 ((execOp a.eval o).run P w))∧
      ∀r s2,K1 r s2→AY P Γ N ops L2 (fun E' s'=>cp P Γ N code Q E' s') (bx E1 o.dst r) s2) E s):
    cp P Γ N (.seq (.region id (o1::o::L2).toArray false) code) Q E s:=
  pG [o1] L2 hg hd (h _)
end Go.AM
namespace Go.AM
open Go Go.RowKit
theorem AV.sX{sz n:Nat}{cs ds:List AV}{sp:Sp}(h:fe.aB cs ds):(AV.sl sz n cs sp).aB (.sl sz n ds sp):=by
  intro G v hv;simp only[av] at hv⊢;have pA:cs=[]→ds=[]:=fun e=>by
    have:=h G [] (by rw[e];simp[au]);cases ds with
    |nil=>rfl
    |cons d ds=>simp only[au] at this;obtain⟨u,us,h1,_⟩:=this;cases h1
  rcases hv with⟨b,off,cap,vs,h1,h2,h3,h4,h5,h6⟩|⟨h1,h2,h3⟩|⟨h1,h2,h3⟩
  · refine .inl ⟨b,off,cap,vs,h1,?_,h3,h G vs h4,h5,h6⟩;have e1:=h4.length;have e2:=(h G vs h4).length;omega
  · exact .inr (.inl ⟨h1,pA h2,h3⟩)
  · exact .inr (.inr ⟨h1,pA h2,h3⟩)
end Go.AM
namespace Go.AM
open Go Go.RowKit
variable{rd:Option Nat}{P:Program}{Γ:Nat→List AV}{N:Nat}
def JS(P:Program)(Γ:Nat→List AV)(N:Nat)(c:Code)(Q:Exit→Env→AS→Prop)(E:Env)(s:AS):Prop:=
  ∀(G:Gh)(a:Act)(w:World),Rel Γ N G E s a w→∀{rd:Option Nat},c.wpIn (uo rd) 0 P (fun e a' w'=>∃G' E' s',G.le G'∧Rel Γ N G' E' s' a' w'∧Q e E' s') a w
section
variable{E:Env}{s:AS}{Q:Exit→Env→AS→Prop}
theorem cp.g{c:Code}(h:cp P Γ N c Q E s):JS P Γ N c Q E s:=fun G a w hr=>wpIn_mono (h G a w hr) fun e a' w' ⟨G',E',s',h1,h2,h3,_⟩=>⟨G',E',s',h1,h2,h3⟩
theorem Ob{x y:Code}(h:JS P Γ N x (az (JS P Γ N y Q) Q) E s):JS P Γ N (.seq x y) Q E s:=by
  intro G a w hr;refine wpIn_seq (wpIn_mono (h G a w hr) ?_);rintro e a' w' ⟨G',E',s',h1,h2,h3⟩;cases e<;>simp only[Exit.then,az] at h3⊢;case normal=>
    refine wpIn_mono (h3 G' a' w' h2) ?_;rintro e zB wj ⟨vp,kq,iI,k1,k2,k3⟩;exact⟨vp,kq,iI,h1.trans k1,k2,k3⟩
  all_goals exact⟨G',E',s',h1,h2,h3⟩
theorem dp{x y:Code}(h:∀K:Env→AS→Prop,(∀E s,JS P Γ N y Q E s→K E s)→cp P Γ N x (az K Q) E s):JS P Γ N (.seq x y) Q E s:=
  Ob (h _ fun _ _ h=>h).g
theorem A8{c:Code}{E':Env}{s':AS}(g:gZ Γ N E s E' s')(h:JS P Γ N c Q E' s'):JS P Γ N c Q E s:=by
  intro G a w hr;obtain⟨G1,k1,k2⟩:=g G a w hr;exact wpIn_mono (h G1 a w k2) fun e a' w' ⟨G',E',s',h1,h2,h3⟩=>⟨G',E',s',k1.trans h1,h2,h3⟩
end
theorem IW{f:FuncId}{fn:Func}{c:Code}{args:List AV}{b6:AV→AS→Prop}{s:AS}(hf:P.funcs[f]? =some fn)(hb:fn.body=some c)(hn:args.length≤fn.ntmps)
    (h:JS P Γ fn.ntmps c (cf P fn.results.toList b6) (bC args) s):aj P Γ f args s b6:=by
  intro G w vs hs hv;have Qn:=hv.length;refine calls_of_wp hf hb ?_;have xA:Rel Γ fn.ntmps (G.cI []) (bC args) s {tmps:=vs.toArray++Array.replicate (fn.ntmps-vs.toArray.size) undef,defers:=[]} w:=by
    refine⟨hs.cI,by simp;omega,fun i=>?_,rfl⟩;simp only[bC];by_cases hi:i<args.length
    · obtain⟨u,h1,h2⟩:=hv.getD i hi;have aY:i<vs.length:=(by omega);rw[Array.getD_eq_getD_getElem?,Array.getElem?_append_left (by simpa using aY)];simp only[List.getElem?_toArray,h1,Option.getD_some];exact av.cI _ _ h2
    · have e1:args.getD i (.v undef)=.v undef:=(by simp[List.getD,List.getElem?_eq_none (Nat.le_of_not_lt hi)]);rw[e1,Array.getD_eq_getD_getElem?,Array.getElem?_append_right (by simp;omega)];simp only[av];cases hh:(Array.replicate (fn.ntmps-vs.toArray.size) undef)[i-vs.toArray.size]? with
      |none=>rfl
      |some u=>
        rw[Array.getElem?_replicate] at hh;split at hh
        · cases hh;rfl
        · cases hh
  refine wpIn_wide.1 (wpIn_mono (F:=uo none) (n:=0) (h _ _ w xA) ?_);rintro e a' w' ⟨G',E',s',h1,h2,h3⟩;have fin:bt P fn.results.toList b6 E' s'→bodyPost P fn (fun e w'=>∃G' r v s',e=.returned v∧G.le G'∧aP Γ G' s' w'∧av G' r v∧b6 r s') .normal a' w':=by
    intro hF;unfold bt at hF;split at hF
    · rename_i Nn Ft;obtain⟨r,s2,q1,q2,q3⟩:=hF;obtain⟨zs,r1,r2⟩:=qh h2 Ft;refine⟨h2.defers.trans h1.df,if h:zs.toArray.size=1 then zs.toArray[0] else .tuple zs.toArray,?_,G'.cI G.df,r,_,s2,rfl,Gh.xj h1,(h2.st.mono q2).cI,av.cI _ _ (q1 _ _ (rA r2)),q3⟩;rw[lG,Array.mapM_eq_mapM_toList];simp only[Sem.run_bind,Sem.run_map,r1,Result.andThen_ok,Sem.run_pure]
    · exact hF.elim
  cases e<;>simp only[cf] at h3;case normal=>exact fin h3
  case ret=>exact fin h3
theorem vE{f:FuncId}{fn:Func}{c:Code}{rs:Array ResultVar}{N:Nat}{args:List AV}{b6:AV→AS→Prop}{s:AS}(hf:P.funcs[f]? =some fn)(hb:fn.body=some c)(hN:fn.ntmps=N)(FY:fn.results=rs)(hn:args.length≤N)
    (h:JS P Γ N c (cf P rs.toList b6) (bC args) s):aj P Γ f args s b6:=by
  subst hN FY;exact IW hf hb hn h
end Go.AM
namespace Go.AM
open Go Go.RowKit Go.ChangeShapes
variable{H:Type}{enc:TypeId×Value→H}{P:Program}
theorem Cb{w:World}{base:Nat}{spare:Nat→Bool}{held:Bool}{fuel:Nat}{t e:TypeId}{d:DataW H}{p:List MemPlace}{v:Value}{ts:List TypeId}{ds:List (DataW H)}{j:Nat}(hu:P.underlying t=some (.slice e))
    (hz:(DataW.weightsEach P ts ds).all (·≤reachBytes)=true) (ht:ts[j]? =some t) (hd:ds[j]? =some d) (h:DataW.trod enc P w base spare held fuel t v.cells.toList=some (d,p)) (hb:1≤P.bytesOf e):
    ∀a l c,v=.slice a l c→l≤reachBytes:=by
  rintro a l c rfl;simp only[Value.cells] at h;rcases DataW.trod_slice hu h with⟨h1,_⟩|⟨a',len,cap,elems,rest,n,_,h1,h2,_,_,_,hlen,_⟩
  · simp only[List.cons.injEq,Value.slice.injEq,and_true] at h1;omega
  · simp only[List.cons.injEq,Value.slice.injEq,and_true] at h1;simp only[Prod.mk.injEq] at h2;obtain⟨rfl,_⟩:=h2;have:=sized_slice hz ht hd hu;simp only[List.length_map] at this;have h3:(elems.length+rest.length)*1≤(elems.length+rest.length)*P.bytesOf e:=Nat.mul_le_mul_left _ hb;omega
end Go.AM
namespace Go.AM
open Go Go.RowKit
variable{P:Program}{Γ:Nat→List AV}{G:Gh}{s:AS}{w:World}
end Go.AM
namespace Go.AM
open Go Go.RowKit Go.ChangeShapes
variable{H:Type}{enc:TypeId×Value→H}{P:Program}
theorem eX{w:World}{base:Nat}{spare:Nat→Bool}{held:Bool}{fuel:Nat}{t e:TypeId}{d:DataW H}{p:List MemPlace}{cs:List Value}{ts:List TypeId}{ds:List (DataW H)}{j:Nat}{fs:Array Field}(hu:P.underlying t=some (.struct fs))
    (hz:(DataW.weightsEach P ts ds).all (·≤reachBytes)=true) (ht:ts[j]? =some t) (hd:ds[j]? =some d) (h:DataW.trod enc P w base spare held fuel t cs=some (d,p)) (i:Nat) {f:Field} (hf:fs[i]? =some f)
    (he:P.underlying f.type=some (.slice e)) (hb:1≤P.bytesOf e) (hc:P.cellsOf f.type=1):∀a l c,cs[f.offset]? =some (.slice a l c)→l≤reachBytes:=by
  intro a l c Fv;obtain⟨xs,n,_,hx,hl,Nq,bT⟩:=DataW.trod_struct hu h;simp only[Prod.mk.injEq] at hx;obtain⟨rfl,_⟩:=hx;have h1:=bT i f hf;have hi:i<fs.size:=(Array.getElem?_eq_some_iff.1 hf).1;rw[hc,show(cs.drop f.offset).take 1=[.slice a l c] from by
    obtain⟨k1,k2⟩:=List.getElem?_eq_some_iff.1 Fv;rw[List.drop_eq_getElem_cons k1,k2];rfl,List.getElem?_eq_getElem (by omega)] at h1
  have hw:(DataW.weightsEach P (fs.toList.map (·.type)) (xs.map (·.1))).all (·≤reachBytes)=true:=by
    rw[List.all_eq_true];intro m hm;exact List.all_eq_true.1 hz m (DataW.weights_mem_each ht hd m (by simp only[DataW.weights,hu];exact hm))
  refine Cb (v:=.slice a l c) (j:=i) (d:=(xs[i]'(by omega)).1) (p:=(xs[i]'(by omega)).2) he hw (by simp[List.getElem?_map,hf]) (by simp[List.getElem?_map,List.getElem?_eq_getElem (show i<xs.length by omega)]) (fuel:=n) (by simpa[Value.cells] using h1) hb a l c rfl
end Go.AM
namespace Go.AM
open Go Go.RowKit
theorem DF:type_of%(And.intro (And.intro (And.intro (And.intro (And.intro (And.intro @cH.eq_1 (And.intro @cH.eq_2 @cH.eq_3)) (And.intro @cH.eq_4 (And.intro @cH.eq_5 @cH.eq_6))) (And.intro
    (And.intro @cH.eq_7 (And.intro @cH.eq_8 @cH.eq_9)) (And.intro (And.intro @cH.eq_10 @cH.eq_11) (And.intro @cH.eq_12 @cH.eq_13)))) (And.intro (And.intro (And.intro
    @cH.eq_14 (And.intro @cH.eq_15 @cH.eq_16)) (And.intro @cH.eq_17 (And.intro @cH.eq_18 @cH.eq_19))) (And.intro (And.intro @gV.eq_1 (And.intro @gV.eq_2
    @gV.eq_3)) (And.intro (And.intro @gV.eq_4 @gV.eq_5) (And.intro @gV.eq_6 @gV.eq_7))))) (And.intro (And.intro (And.intro (And.intro @gV.eq_8 (And.intro @gV.eq_9
    @gV.eq_10)) (And.intro @gV.eq_11 (And.intro @gV.eq_12 @gV.eq_13))) (And.intro (And.intro @fi.eq_1 (And.intro @fi.eq_2 @fi.eq_3)) (And.intro (And.intro @fi.eq_4
    @fi.eq_5) (And.intro @fi.eq_6 @fi.eq_7)))) (And.intro (And.intro (And.intro @fi.eq_8 (And.intro @fi.eq_9 @fi.eq_10)) (And.intro @fi.eq_11 (And.intro @fi.eq_12
    @fi.eq_13))) (And.intro (And.intro @fi.eq_14 (And.intro @fi.eq_15 @fi.eq_16)) (And.intro (And.intro @vk.eq_1 @vk.eq_2) (And.intro @vk.eq_3 @xk.eq_1))))))
    (And.intro (And.intro (And.intro (And.intro (And.intro @xk.eq_2 (And.intro @xk.eq_3 @xk.eq_4)) (And.intro @mY.eq_1 (And.intro @mY.eq_2 @mY.eq_3))) (And.intro
    (And.intro @FK.eq_1 (And.intro @FK.eq_2 @FK.eq_3)) (And.intro (And.intro @FK.eq_4 @FK.eq_5) (And.intro @FK.eq_6 @dR.eq_1)))) (And.intro (And.intro (And.intro
    @dR.eq_2 (And.intro @dR.eq_3 @gX.eq_1)) (And.intro @gX.eq_2 (And.intro @gX.eq_3 @gX.eq_4))) (And.intro (And.intro @gX.eq_5 (And.intro @iM.eq_1
    @iM.eq_2)) (And.intro (And.intro @placeOf.eq_1 @bn.eq_1) (And.intro @bn.eq_2 @undef.eq_1))))) (And.intro (And.intro (And.intro (And.intro @oA.eq_1 (And.intro
    @apart.eq_1 @aO.eq_1)) (And.intro @aO.eq_2 (And.intro @aO.eq_3 @aO.eq_4))) (And.intro (And.intro @bx.eq_1 (And.intro @bx.eq_2 @aH.eq_1)) (And.intro (And.intro
    @bC.eq_1 @nN.eq_1) (And.intro @az.eq_1 @az.eq_2)))) (And.intro (And.intro (And.intro @ar.eq_1 (And.intro @ar.eq_2 @kH.eq_1)) (And.intro @al.eq_1
    (And.intro @Array.isEmpty.eq_1.{0} @List.isEmpty.eq_1.{0}))) (And.intro (And.intro @List.isEmpty.eq_2.{0} (And.intro @implies_true.{0} @implies_true.{1})) (And.intro (And.intro
    @forall_eq'.{1} @ne_eq.{1}) (And.intro @if_true.{1} @if_false.{1}))))))):=
  (And.intro (And.intro (And.intro (And.intro (And.intro (And.intro @cH.eq_1 (And.intro @cH.eq_2 @cH.eq_3)) (And.intro @cH.eq_4 (And.intro @cH.eq_5 @cH.eq_6))) (And.intro
    (And.intro @cH.eq_7 (And.intro @cH.eq_8 @cH.eq_9)) (And.intro (And.intro @cH.eq_10 @cH.eq_11) (And.intro @cH.eq_12 @cH.eq_13)))) (And.intro (And.intro (And.intro
    @cH.eq_14 (And.intro @cH.eq_15 @cH.eq_16)) (And.intro @cH.eq_17 (And.intro @cH.eq_18 @cH.eq_19))) (And.intro (And.intro @gV.eq_1 (And.intro @gV.eq_2
    @gV.eq_3)) (And.intro (And.intro @gV.eq_4 @gV.eq_5) (And.intro @gV.eq_6 @gV.eq_7))))) (And.intro (And.intro (And.intro (And.intro @gV.eq_8 (And.intro @gV.eq_9
    @gV.eq_10)) (And.intro @gV.eq_11 (And.intro @gV.eq_12 @gV.eq_13))) (And.intro (And.intro @fi.eq_1 (And.intro @fi.eq_2 @fi.eq_3)) (And.intro (And.intro @fi.eq_4
    @fi.eq_5) (And.intro @fi.eq_6 @fi.eq_7)))) (And.intro (And.intro (And.intro @fi.eq_8 (And.intro @fi.eq_9 @fi.eq_10)) (And.intro @fi.eq_11 (And.intro @fi.eq_12
    @fi.eq_13))) (And.intro (And.intro @fi.eq_14 (And.intro @fi.eq_15 @fi.eq_16)) (And.intro (And.intro @vk.eq_1 @vk.eq_2) (And.intro @vk.eq_3 @xk.eq_1))))))
    (And.intro (And.intro (And.intro (And.intro (And.intro @xk.eq_2 (And.intro @xk.eq_3 @xk.eq_4)) (And.intro @mY.eq_1 (And.intro @mY.eq_2 @mY.eq_3))) (And.intro
    (And.intro @FK.eq_1 (And.intro @FK.eq_2 @FK.eq_3)) (And.intro (And.intro @FK.eq_4 @FK.eq_5) (And.intro @FK.eq_6 @dR.eq_1)))) (And.intro (And.intro (And.intro
    @dR.eq_2 (And.intro @dR.eq_3 @gX.eq_1)) (And.intro @gX.eq_2 (And.intro @gX.eq_3 @gX.eq_4))) (And.intro (And.intro @gX.eq_5 (And.intro @iM.eq_1
    @iM.eq_2)) (And.intro (And.intro @placeOf.eq_1 @bn.eq_1) (And.intro @bn.eq_2 @undef.eq_1))))) (And.intro (And.intro (And.intro (And.intro @oA.eq_1 (And.intro
    @apart.eq_1 @aO.eq_1)) (And.intro @aO.eq_2 (And.intro @aO.eq_3 @aO.eq_4))) (And.intro (And.intro @bx.eq_1 (And.intro @bx.eq_2 @aH.eq_1)) (And.intro (And.intro
    @bC.eq_1 @nN.eq_1) (And.intro @az.eq_1 @az.eq_2)))) (And.intro (And.intro (And.intro @ar.eq_1 (And.intro @ar.eq_2 @kH.eq_1)) (And.intro @al.eq_1
    (And.intro @Array.isEmpty.eq_1.{0} @List.isEmpty.eq_1.{0}))) (And.intro (And.intro @List.isEmpty.eq_2.{0} (And.intro @implies_true.{0} @implies_true.{1})) (And.intro (And.intro
    @forall_eq'.{1} @ne_eq.{1}) (And.intro @if_true.{1} @if_false.{1})))))))
theorem DB:type_of%(And.intro (And.intro (And.intro @Bool.not_true @Bool.not_false) (And.intro @Bool.false_eq_true @Bool.true_eq_false)) (And.intro (And.intro @false_imp_iff @true_imp_iff) (And.intro @decide_eq_true_eq @decide_eq_false_iff_not))):=
  (And.intro (And.intro (And.intro @Bool.not_true @Bool.not_false) (And.intro @Bool.false_eq_true @Bool.true_eq_false)) (And.intro (And.intro @false_imp_iff @true_imp_iff) (And.intro @decide_eq_true_eq @decide_eq_false_iff_not)))
theorem DX:type_of%(And.intro (And.intro @List.contains_cons.{0} (And.intro @List.contains_nil.{0} @Bool.or_false)) (And.intro (And.intro @Bool.or_true @Bool.or_self) (And.intro @Bool.false_eq_true @Bool.false_or))):=
  (And.intro (And.intro @List.contains_cons.{0} (And.intro @List.contains_nil.{0} @Bool.or_false)) (And.intro (And.intro @Bool.or_true @Bool.or_self) (And.intro @Bool.false_eq_true @Bool.false_or)))
theorem DT:type_of%(And.intro (And.intro @xL (And.intro @xM @xN)) (And.intro @sP (And.intro @vy @vz))):=
  (And.intro (And.intro @xL (And.intro @xM @xN)) (And.intro @sP (And.intro @vy @vz)))
end Go.AM
namespace Go.AM
open Go Go.RowKit
variable{rd:Option Nat}{P:Program}{Γ:Nat→List AV}{G:Gh}{s:AS}{w:World}{N:Nat}{ops:Array Oper}
inductive Mk where
  |val
  |wY
  |Ky (v:AV)
  |frz
def xbw(P:Program)(o:Oper):Option AV:=
  match o.op with
  |.makeSlice T (.const (.int _ n)) _=>
    match P.underlying T with
    |some (.slice e)=>match bq P e with |some z=>some (.sl (P.cellsOf e) n.toNat (oV (n.toNat*P.cellsOf e) z) .no)|none=>none
    |_=>none
  |_=>none
def R7(P:Program)(N:Nat)(o:Oper):Bool:=
  match o.guard,o.dst,o.op with
  |none,some d,.alloc T=>decide (d<N)&&(bq P T).isSome
  |none,some d,.makeSlice T (.const (.int _ n)) (.const (.int _ m))=>
    decide (d<N)&&(match P.underlying T with
      |some (.slice e)=>(match bq P e with
        |some z=>decide (0≤n)&&(decide (m=n)&&(decide (P.bytesOf e*n≤70368744177664)&&(decide (n≤70368744177664)&&(decide (P.cellsOf e≠0)&&decide (z.length=P.cellsOf e)))))
        |none=>false)
      |_=>false)
  |_,_,_=>false
def rE(ops:Array Oper)(o:Oper)(E:Env):Prop:=
  match o.guard with
  |none=>True
  |some (j,want)=>match nN ops j with |some d=>E d=.v (.bool want)|none=>False
theorem A9{ops:Array Oper}{o:Oper}{E E':Env}(h:∀d,d∈o.looksAt ops→E' d=E d)(hv:rE ops o E):rE ops o E':=by
  cases hg:o.guard with
  |none=>simp[rE,hg]
  |some g=>
    obtain⟨j,want⟩:=g;simp only[rE,hg] at hv⊢;cases hj:nN ops j with
    |none=>rw[hj] at hv;exact hv.elim
    |some d=>
      rw[hj] at hv;have :E' d=E d:=h d (by
        by_cases hd:d∈o.looksAt ops
        · exact hd
        · exact absurd hj (mA hd hg))
      simp only[this];exact hv
theorem Kz{P:Program}{Γ:Nat→List AV}{N:Nat}{ops:Array Oper}{o:Oper}{E:Env}{s:AS}{K:Env→AS→Prop}(hg:rE ops o E):AX P Γ N ops [o] K E s↔AX P Γ N ops [{o with guard:=none}] K E s:=by
  cases h:o.guard with
  |none=>
    have :({o with guard:=none}:Oper)=o:=(by cases o;simp_all);rw[this]
  |some g=>
    obtain⟨j,want⟩:=g;simp only[rE,h] at hg;cases hj:nN ops j with
    |none=>rw[hj] at hg;exact hg.elim
    |some d=>
      rw[hj] at hg;have:=xH (P:=P) (Γ:=Γ) (N:=N) (rest:=[]) (K:=K) (s:=s) h hj hg;rw[ay] at this;rw[this,if_pos rfl]
def UX(P:Program)(Γ:Nat→List AV)(o:Oper)(E:Env)(v:AV):Prop:=
  o.guard=none∧
  match o.op with
  |.call {callee:=.value f,args,.. }=>
    match aO Γ E f with
    |.v (.func (.func k) first cd)=>first.isEmpty=true∧cd.isEmpty=true∧ag P k=true∧∀s,aj P Γ k (args.toList.map (aO Γ E)) s (fun r s'=>r=v∧s'=s)
    |_=>False
  |_=>False
def GV(P:Program)(Γ:Nat→List AV)(N:Nat)(ops:Array Oper)(m:Mk)(o:Oper)(E:Env)(v:AV):Prop:=
  match m with
  |.Ky u=>v=u∧UX P Γ o E u
  |.val=>bN P Γ ops o E=some v
  |.frz=>rE ops o E∧R7 P N {o with guard:=none}=true∧xbw P o=some v
  |.wY=>False
def Mk.dD:Mk→Bool
  |.wY=>true
  |_=>false
def R8(P:Program)(Γ:Nat→List AV)(N:Nat)(ops:Array Oper):List (Oper×Mk)→(Env→AS→Prop)→Env→AS→Prop
  |[],K,E,s=>K E s
  |(o,m)::rest,K,E,s=>
    if m.dD=true then AX P Γ N ops [o] (R8 P Γ N ops rest K) E s
    else(∀d,o.dst=some d→d<N)∧∃v,GV P Γ N ops m o E v∧R8 P Γ N ops rest K (bx E o.dst v) s
theorem Oc{o:Oper}{E:Env}{v:AV}{K:Env→AS→Prop}(hd:∀d,o.dst=some d→d<N)(hv:UX P Γ o E v)(h:K (bx E o.dst v) s):AX P Γ N ops [o] K E s:=by
  obtain⟨hg,hv⟩:=hv;simp only[AX,hg];refine⟨hd,?_⟩;cases hc:o.op<;>rw[hc] at hv;case call c=>
    obtain⟨callee,args,argTypes⟩:=c;cases callee with
    |value f=>
      simp only[b8,cH,dj];simp only at hv;split at hv
      · rename_i k first cd hf
        simp only[hf];obtain⟨h1,h2,h3,h4⟩:=hv;refine⟨h1,h2,h3,(h4 s).mono ?_⟩;rintro r s' ⟨rfl,rfl⟩;exact h
      · cases hv
    |invoke r m=>cases hv
    |builtin b=>cases hv
  all_goals cases hv
theorem R9{o:Oper}{m:Mk}(hmf:m≠.frz){L:List (Oper×Mk)}{E:Env}{K:Env→AS→Prop}(h:R8 P Γ N ops ((o,m)::L) K E s):AX P Γ N ops [o] (R8 P Γ N ops L K) E s:=by
  simp only[R8] at h;split at h
  · exact h
  · obtain⟨hd,v,hv,h⟩:=h;cases m with
    |Ky u=>
      obtain⟨rfl,hv⟩:=hv;exact Oc hd hv h
    |wY=>exact hv.elim
    |frz=>exact absurd rfl hmf
    |val=>
      have hv:bN P Γ ops o E=some v:=hv;have :pz P Γ N ops [(o,false)] (R8 P Γ N ops L K) E s:=by
        simp only[pz,Bool.false_eq_true,if_false,hv];exact⟨hd,h⟩
      have:=FX this;simpa only[pz] using this
def xao(P:Program)(Γ:Nat→List AV)(N:Nat)(ops:Array Oper)(o:Oper):Prop:=
  ∃(v:Nat→AV)(z:List AV),∀(E:Env)(s:AS)(K:Env→AS→Prop),AX P Γ N ops [o] K E s↔∀ob,s.aw ob=none→K (bx E o.dst (v ob)) (s.set ob z)
def oE:List (Nat×AV)→Nat→Option AV
  |[],_=>none
  |(i,v)::L,k=>if k=i then some v else oE L k
theorem ql{k:Nat}:oE [] k=none:=rfl
theorem nU{i k:Nat}{v:AV}{L:List (Nat×AV)}:oE ((i,v)::L) k=if k=i then some v else oE L k:=rfl
section
variable{Q:Exit→Env→AS→Prop}{E:Env}
end
end Go.AM
namespace Go.AM
open Go Go.RowKit
variable{rd:Option Nat}{P:Program}{Γ:Nat→List AV}{G:Gh}{s:AS}{w:World}{N:Nat}{ops:Array Oper}
variable{Q:Exit→Env→AS→Prop}{E:Env}
theorem KA{s:AS}{o1 o2:Nat}(h:o1≠o2)(a b c d:List AV):(((s.set o1 a).set o2 b).set o1 c).set o2 d=(s.set o1 c).set o2 d:=by
  rw[AS.N5 _ h,AS.set_set]
end Go.AM
namespace Go.AM
open Go Go.RowKit
variable{P:Program}{Γ:Nat→List AV}{G:Gh}{s:AS}{w:World}{N:Nat}
theorem fe.aB.append{a b c d:List AV}(h:fe.aB a c)(k:fe.aB b d):fe.aB (a++b) (c++d):=by
  intro G v hv;have hl:=hv.length;have h1:=hv.take a.length;have h2:=hv.drop a.length;rw[List.take_left] at h1;rw[List.drop_left] at h2;have:=au.append (h G _ h1) (k G _ h2);rwa [List.take_append_drop] at this
def AS.tells(Γ:Nat→List AV)(s s':AS):Prop:=∀G w,aP Γ G s w→aP Γ G s' w
theorem aP.Od{o:Nat}{cs cs':List AV}(h:aP Γ G s w)(ho:s.aw o=some cs)(hw:fe.aB cs cs'):aP Γ G (s.set o cs') w:=by
  refine⟨h.ro,?_,h.cV,h.inj,h.own,h.cF,h.bS,h.cv,h.b7,h.below,h.others,h.base,h.gN,h.soft⟩;intro o' ds hd;by_cases e:o'=o
  · subst e;rw[AS.ae] at hd;cases hd;obtain⟨b,vs,h1,h2,h3,h4⟩:=h.aw o' cs ho;exact⟨b,vs,h1,hw G vs h2,h3,h4⟩
  · rw[AS.ao _ e] at hd;exact h.aw o' ds hd
theorem AS.ll{o:Nat}{cs cs':List AV}(ho:s.aw o=some cs)(hw:fe.aB cs cs'):AS.tells Γ s (s.set o cs'):=fun _ _ h=>h.Od ho hw
theorem nh{c:Code}{Q:Exit→Env→AS→Prop}{E:Env}{s s':AS}(h:AS.tells Γ s s')(k:cp P Γ N c Q E s'):cp P Γ N c Q E s:=
  fun G a w hr=>k G a w ⟨h G w hr.st,hr.size,hr.tmps,hr.defers⟩
def cP(sz:Nat)(s0 s:AS)(x:AV)(n:Nat)(cs:List AV):Prop:=(x=bL∧n=0∧cs=[])∨∃t e,x=.sl sz n cs (.own t e)∧s.own t=some e∧s0.own t=none
theorem cP.aB{sz:Nat}{s0 s:AS}{x:AV}{n:Nat}{cs:List AV}(h:cP sz s0 s x n cs):x.aB (.sl sz n cs .any):=by
  rcases h with⟨rfl,rfl,rfl⟩|⟨t,e,rfl,_,_⟩
  · exact AV.aN
  · exact AV.bQ
theorem cP.one{sz:Nat}{s0 s:AS}{x:AV}{n:Nat}{cs:List AV}(h:cP sz s0 s x n cs):x.one=true:=by
  rcases h with⟨rfl,_,_⟩|⟨t,e,rfl,_,_⟩
  · rfl
  · rfl
theorem cP.nil(sz:Nat)(s0 s:AS):cP sz s0 s bL 0 []:=.inl ⟨rfl,rfl,rfl⟩
theorem cP.own{sz:Nat}{s0 s s':AS}{x:AV}{n:Nat}{cs:List AV}(h:cP sz s0 s x n cs)(k:∀t e,s.own t=some e→s0.own t=none→s'.own t=some e):cP sz s0 s' x n cs:=by
  rcases h with h|⟨t,e,h1,h2,h3⟩
  · exact .inl h
  · exact .inr ⟨t,e,h1,k t e h2 h3,h3⟩
end Go.AM
