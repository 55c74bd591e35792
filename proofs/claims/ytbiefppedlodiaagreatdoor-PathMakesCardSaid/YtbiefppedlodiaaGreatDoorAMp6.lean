/- An abstract machine for the model and the rules of its walk, each proved sound over the model; no condition. -/
import Derived.Test.YtbiefppedlodiaaGreatDoorAMp5
import Derived.RangeFuncIn
import Derived.RangeFuncRecord
import Derived.RangeFuncSeq
import Derived.RangeFuncLeaves
import Derived.Test.YtbiefppedlodiaaGreatDoorAMp4
import Derived.SizedLaws
import Derived.OpenShut
open And renaming intro -> ab
open Array renaming ext' -> cF, getD_eq_getD_getElem? -> aR, getElem?_append_left -> dr, getElem?_append_right -> dp, getElem?_eq_some_iff -> ao, getElem?_replicate -> dv, replicate -> cb
open Bool renaming and_eq_true -> aw, false_eq_true -> ar
open Classical renaming choose -> cz, choose_spec -> ct
open Go.Builtin renaming append_ -> bw, nextslicecap -> cG, zeroCells -> cc
open Go.Fence renaming wide -> bY
open Go.Oper renaming apart_spec -> cx, uponIn -> dG
open Go.Question renaming appendCap -> cv
open Go.Region renaming before -> bx, binds -> cW, ready -> bO, wanted -> de
open Go.Result renaming andThen_ok -> aM
open Go.Sem renaming run_bind -> bo, run_pure -> bE
open Go.Value renaming cells -> dg
open Int renaming le_refl -> bB
open List renaming all_eq_true -> aB, cons_append -> bt, eq_nil_of_length_eq_zero -> al, ext_getElem? -> br, getD -> bm, getElem?_eq_getElem -> ag, getElem?_eq_none -> a8, getElem?_map -> aN, length_nil -> aX, map_cons -> aG, mem_cons_of_mem -> aQ, mem_filterMap -> cw, mem_map -> bR, nil_append -> aP, range -> aq, take_append_drop -> bW
open List.cons renaming injEq -> cM
open Nat renaming le_refl -> ax, zero_add -> bf
open Option renaming getD_some -> bu
open Option.some renaming inj -> bZ, injEq -> aU
set_option linter.unusedSimpArgs false
set_option linter.unusedVariables false
namespace Go.AM
open Go Go.RowKit
variable{rd:Option Nat}{P:Program}{Γ:Nat->List AV}{G:Gh}{s:AS}{w:World}
theorem vg{N:Nat}{E:Env}{Q:Exit->Env->AS->Prop}{id:Nat}(L1 L2:List Oper){o:Oper}{code:Code}(hg:o.guard=none)(hd:∀d,o.dst=some d->d<N)
    (h:AY P Γ N (L1++o::L2).toArray L1 (fun E1 s1=>∃K1:AV->AS->Prop,(∀G a w,Rel Γ N G E1 s1 a w->iB P Γ G K1 ((execOp a.eval o).run P w))∧
      ∀r s2,K1 r s2->AY P Γ N (L1++o::L2).toArray L2 (fun E' s'=>fY P Γ N code Q E' s') (eR E1 o.dst r) s2) E s):
    fY P Γ N (.seq (.region id (L1++o::L2).toArray false) code) Q E s:=by
  rw[ay] at h;refine oX ?_;intro G a w hr;refine wpIn_region ?_;have fG:∀ops:Array Oper,(aq ops.size).map (ops[·]?)=ops.toList.map some:=by
    intro ops;apply br;intro i;simp only[aN];by_cases hi:i<ops.size
    · simp[hi]
    · simp[hi]
  have vi:=fG (L1++o::L2).toArray;generalize hI:aq (L1++o::L2).toArray.size=I at vi;have h1:(I.take L1.length).map ((L1++o::L2).toArray[·]?)=L1.map some:=by
    rw[List.map_take,vi];simp
  have h2:(I.drop L1.length).map ((L1++o::L2).toArray[·]?)=(o::L2).map some:=by
    rw[List.map_drop,vi];simp
  rw[<-bW L1.length I];generalize I.take L1.length=I1 at h1;generalize I.drop L1.length=I2 at h2;cases I2 with
  |nil=>simp at h2
  |cons i I2=>
    simp only[aG,cM] at h2;refine jn L1 I1 (i::I2) h1 (ja _ h) hr ?_;rintro G1 E1 s1 a1 w1 mC wM ⟨⟨K1,lJ,hk⟩,HA⟩;rw[wpOpsIn_cons];simp only[wpOpIn,h2.1];rw[if_pos (jq hg)];refine(Oper.sF wM hd (lJ G1 a1 w1 wM) ?_);intro G3 r s3 a3 w3 Xw wN hK;refine qN L2 I2 h2.2 (ja _ (hk r s3 hK)) wN ?_;rintro G4 E4 s4 a4 w4 hG4 I8 ⟨QX,RJ⟩;refine⟨G4,E4,s4,mC.trans (Xw.trans hG4),I8,QX,?_⟩;intro i hi;have mem:∀L:List Oper,i∈fT L↔∃o∈L,o.dst=some i:=(fun L=>by simp[fT,cw]);have et:¬∃o'∈L1++o::L2,o'.dst=some i:=fun hm=>hi ((mem _).2 hm);have m1:i∉fT L1:=fun hm=>et (by obtain⟨o,k1,k2⟩:=(mem _).1 hm;exact⟨o,by simp[k1],k2⟩);have m2:i∉fT L2:=fun hm=>et (by obtain⟨o,k1,k2⟩:=(mem _).1 hm;exact⟨o,by simp[k1],k2⟩);have m3:o.dst≠some i:=fun e=>et ⟨o,sM,e⟩;rw[RJ i m2,fR m3,HA i m1]
theorem HB{N:Nat}{E:Env}{Q:Exit->Env->AS->Prop}{id:Nat}{L2:List Oper}{o:Oper}{code:Code}(hg:o.guard=none)(hd:∀d,o.dst=some d->d<N)(K1:AV->AS->Prop)
    (lJ:∀G a w,Rel Γ N G E s a w->iB P Γ G K1 ((execOp a.eval o).run P w))
    (h:∀r s2,K1 r s2->AY P Γ N (o::L2).toArray L2 (fun E' s'=>fY P Γ N code Q E' s') (eR E o.dst r) s2):
    fY P Γ N (.seq (.region id (o::L2).toArray false) code) Q E s:=
  vg [] L2 hg hd (by rw[Ro];exact⟨K1,lJ,h⟩)
theorem JU{ρ:Operand->AV}{ρ':Operand->Value}{o:Oper}{T:TypeId}{len:Nat}{parts:Array (Nat×Operand)}{cs z:List AV}{e:TypeId}(ho:o.op=.buildSlice T len parts)
    (hu:P.underlying T=some (.slice e)) (hz:eO P e=some z) (c1:P.cellsOf e≠0) (c2:len*P.cellsOf e<=2^24) (c3:z.length=P.cellsOf e)
    (h1:ov (fun i=>some (i*P.cellsOf e,P.cellsOf e)) (rF (len*P.cellsOf e) z) (parts.toList.map fun p=>(p.1,ρ p.2))=some cs) (hρ:∀x,dQ G (ρ x) (ρ' x)) (hs:eo Γ G s w):
    iB P Γ G (fun r s'=>∃ob,s.dD ob=none∧r=.jd ob 0 (P.cellsOf e) len len∧s'=s.set ob cs) ((execOp ρ' o).run P w):=by
  obtain⟨v,hv,rfl⟩:=iP hz;have gP:v.cells.toList≠[]:=by
    intro e';rw[e'] at c3;simp at c3;omega
  obtain⟨vs,h2,h3⟩:=pf (G:=G) (qs:=(parts.map fun p=>(p.1,ρ' p.2)).toList) _ h1 (by simpa using kU.of_map hρ parts.toList) (xk (len*P.cellsOf e) gP);obtain⟨ob,k1,k2,k3,k4⟩:=hs.newObj h3 e;refine(show execOp ρ' o=(do pure (.value (<-Instr.buildSlice T len (parts.map fun p=>(p.1,ρ' p.2))))) by simp only[execOp,ho]) ▸ iQ ⟨_,.slice (some ⟨w.heap.size,0,none⟩) len len,_,_,_,?_,k2,k3,?_,ob,k1,rfl,rfl⟩
  · simp only[Instr.buildSlice,bo,run_underlying hu,aM,eu c1];rw[if_neg oM];by_cases h0:len*P.cellsOf e=0
    · have pK:(Array.range (len*P.cellsOf e)).map (fun i=>(#[]:Array Value)[i%(#[]:Array Value).size]!)=((aq (len*P.cellsOf e)).map fun i=>v.cells.toList.toArray[i%v.cells.toList.toArray.size]!).toArray:=by
        rw[h0];simp
      rw[if_pos h0];simp only[bo,bE,aM,pK];simp only[h2];simp[newRow]
    · have pK:(Array.range (len*P.cellsOf e)).map (fun i=>v.cells[i%v.cells.size]!)=((aq (len*P.cellsOf e)).map fun i=>v.cells.toList.toArray[i%v.cells.toList.toArray.size]!).toArray:=by
        apply cF;simp
      rw[if_neg h0];simp only[bo,hv,bE,aM,pK];simp only[h2];simp[newRow]
  · simp only[dQ];exact⟨_,k4,rfl,ax _⟩
end Go.AM
namespace Go.AM
open Go Go.RowKit
variable{P:Program}{Γ:Nat->List AV}{G:Gh}{s:AS}{w:World}{N:Nat}{E:Env}
theorem Oper.Bt{l:Option Nat}{a:Act}{o:Oper}{K:AV->AS->Prop}{next:Act->World->Prop}{Q:Exit->Act->World->Prop}(hnd:∀c,o.op≠.defer c)(hr:Rel Γ N G E s a w)(hd:∀d,o.dst=some d->d<N)
    (h:iB P Γ G K ((execOp a.eval o).run P w)) (hn:∀G' r s' a' w',G.le G'->Rel Γ N G' (eR E o.dst r) s' a' w'->K r s'->next a' w'):o.wpIn (yq l) 0 P a w next Q:=by
  refine⟨fun _ _=>trivial,?_⟩;rw[Oper.semAt_eq _ _ _ hnd];generalize (execOp a.eval o).run P w=R at h;cases R with
  |ok n w'=>
    cases n<;>simp only[iB] at h;case value v=>
      obtain⟨G',r,s',h1,h2,h3,h4⟩:=h;simp only[dG];exact hn G' r s' _ _ h1 (hr.put h1 h2 h3 hd) h4
    case skip=>
      obtain⟨G',s',h1,h2,h3⟩:=h;simp only[dG];exact hn G' (.v undef) s' _ _ h1 (hr.put h1 h2 (by simp[dQ]) hd) h3
    case enter f args=>
      simp only[dG];refine⟨(fun e=>by cases e),CallsIn.mono (F:=bY) (callsIn_wide.2 h) ?_⟩;rintro e z8 ⟨G',r,v,s',rfl,h1,h2,h3,h4⟩;exact hn G' r s' _ _ h1 (hr.put h1 h2 h3 hd) h4
  |halt x w'=>simp only[iB] at h
theorem Bu{ρ:Operand->AV}{K:AV->AS->Prop}{op:Op}(h:fS P Γ ρ s K op)(c:Call):op≠.defer c:=by
  rintro rfl;simp[fS,gG,ic] at h
theorem Gi{l:Option Nat}{a:Act}{ops:Array Oper}{i:Nat}{I:List Nat}{o:Oper}{L:List Oper}{K:Env->AS->Prop}{Q:Exit->Act->World->Prop}(ho:ops[i]? =some o)
    (h:AX P Γ N ops (o::L) K E s) (hr:Rel Γ N G E s a w) (hn:∀G' E' s' a' w',G.le G'->Rel Γ N G' E' s' a' w'->AX P Γ N ops L K E' s'->wpOpsIn (yq l) 0 P ops Q I a' w'):wpOpsIn (yq l) 0 P ops Q (i::I) a w:=by
  simp only[AX] at h;obtain⟨hd,h⟩:=h;simp only[wpOpsIn,ho];split at h
  · rename_i hg;rw[if_pos (jq hg)];exact Oper.Bt (Bu h) hr hd (ph o h hr.eval hr.st) fun G' r s' a' w' h1 h2 h3=>hn G' _ s' a' w' h1 h2 h3
  · rename_i j want hg;split at h
    · exact h.elim
    · rename_i d hj;split at h
      · rename_i t hE;have hy:=CW hr hj hE;have hw:de o (yielded ops a.tmps)=(t==want):=(by simp[de,hg,hy]);split at h
        · rename_i ht;rw[if_pos (by rw[hw];simpa using ht)];exact Oper.Bt (Bu h) hr hd (ph o h hr.eval hr.st) fun G' r s' a' w' h1 h2 h3=>hn G' _ s' a' w' h1 h2 h3
        · rename_i ht;rw[if_neg (by rw[hw];simpa using ht)];exact⟨fun _ _=>trivial,hn G _ s _ _ (.refl G) (hr.put (.refl G) hr.st (by simp[dQ]) hd) h⟩
      · rename_i c hE;have hy:=yt hr hj hE;have hw:de o (yielded ops a.tmps)=false:=(by simp[de,hg,hy]);rw[if_neg (by rw[hw];simp)];exact⟨fun _ _=>trivial,hn G _ s _ _ (.refl G) (hr.put (.refl G) hr.st (by simp[dQ]) hd) h⟩
      · exact h.elim
theorem nO{l:Option Nat}{ops:Array Oper}{Q:Exit->Act->World->Prop}{K:Env->AS->Prop}:∀(L:List Oper)(I J:List Nat){G:Gh}{E:Env}{s:AS}{a:Act}{w:World},I.map (ops[·]?)=L.map some->AX P Γ N ops L K E s->Rel Γ N G E s a w->
    (∀G' E' s' a' w',G.le G'->Rel Γ N G' E' s' a' w'->K E' s'->wpOpsIn (yq l) 0 P ops Q J a' w')->wpOpsIn (yq l) 0 P ops Q (I++J) a w
  |[],I,J,G,E,s,a,w,hI,h,hr,hq=>by
    have :I=[]:=(by simpa using hI);subst this;exact hq G E s a w (.refl G) hr h
  |o::L,I,J,G,E,s,a,w,hI,h,hr,hq=>by
    cases I with
    |nil=>simp at hI
    |cons i I=>
      simp only[aG,cM] at hI;exact Gi hI.1 h hr fun G' E' s' a' w' h1 h2 h3=>nO L I J hI.2 h3 h2 fun ya mW mb CX z8 k1 k2 k3=>hq ya mW mb CX z8 (h1.trans k1) k2 k3
theorem tu{l:Option Nat}{ops:Array Oper}{Q:Exit->Act->World->Prop}{K:Env->AS->Prop}:∀(L:List Oper)(I:List Nat){G:Gh}{E:Env}{s:AS}{a:Act}{w:World},I.map (ops[·]?)=L.map some->AX P Γ N ops L K E s->Rel Γ N G E s a w->
    (∀G' E' s' a' w',G.le G'->Rel Γ N G' E' s' a' w'->K E' s'->Q .normal a' w')->wpOpsIn (yq l) 0 P ops Q I a w
  |[],I,G,E,s,a,w,hI,h,hr,hq=>by
    have :I=[]:=(by simpa using hI);subst this;exact hq G E s a w (.refl G) hr h
  |o::L,I,G,E,s,a,w,hI,h,hr,hq=>by
    cases I with
    |nil=>simp at hI
    |cons i I=>
      simp only[aG,cM] at hI;exact Gi hI.1 h hr fun G' E' s' a' w' h1 h2 h3=>tu L I hI.2 h3 h2 fun ya mW mb CX z8 k1 k2 k3=>hq ya mW mb CX z8 (h1.trans k1) k2 k3
theorem qU{l:Option Nat}{id:Nat}{ops:Array Oper}{Q:Exit->Act->World->Prop}{K:Env->AS->Prop}{a:Act}(h:AY P Γ N ops ops.toList K E s)(hr:Rel Γ N G E s a w)
    (hq:∀G' E' s' a' w',G.le G'->Rel Γ N G' E' s' a' w'->K E' s'->Q .normal a' w'):(Code.region id ops false).wpIn (yq l) 0 P Q a w:=by
  rw[ay] at h;refine wpIn_region (tu ops.toList _ ?_ h hr hq);apply br;intro i;simp only[aN];by_cases hi:i<ops.size
  · simp[hi]
  · simp[hi]
theorem JV{W:World}{k:Nat}{o o':Obj}(hk:W.heap[k]? =some o)(ho:∀c T f,o≠.cells c T f)(wy:∀c T f,o'≠.cells c T f)(b j:Nat):(W.putObj k o').cell? ⟨b,j,none⟩=W.cell? ⟨b,j,none⟩:=by
  by_cases e:b=k
  · subst e;have h1:=World.putObj_heap_same (w:=W) (o:=o') (ao.1 hk).1;simp only[World.cell?,h1,hk];cases o<;>cases o'<;>first |rfl|exact absurd rfl (ho _ _ _)|exact absurd rfl (wy _ _ _)
  · exact World.cell?_of_block (World.putObj_heap_other e)
theorem Fj{W:World}{k:Nat}{o o':Obj}(hk:W.heap[k]? =some o)(ho:∀c T f,o≠.cells c T f)(wy:∀c T f,o'≠.cells c T f)(b j:Nat):(W.putObj k o').frozen? ⟨b,j,none⟩=W.frozen? ⟨b,j,none⟩:=by
  by_cases e:b=k
  · subst e;have h1:=World.putObj_heap_same (w:=W) (o:=o') (ao.1 hk).1;simp only[World.frozen?,h1,hk];cases o<;>cases o'<;>first |rfl|exact absurd rfl (ho _ _ _)|exact absurd rfl (wy _ _ _)
  · exact World.frozen?_of_block (World.putObj_heap_other e)
theorem eo.putObj{W:World}{k:Nat}{o o':Obj}(h:eo Γ G s W)(hk:W.heap[k]? =some o)(ho:∀c T f,o≠.cells c T f)(wy:∀c T f,o'≠.cells c T f)(hB:G.w0.heap.size<=k)(hB':G.B<=k):eo Γ G s (W.putObj k o'):=by
  have hg:W.grownBy (W.putObj k o') (some k):=⟨rfl,rfl,rfl,by simp[World.putObj],fun i _ hi=>World.putObj_heap_other (fun e=>hi (by rw[e]))⟩;refine h.Hd (fun b j=>JV hk ho wy b j) (fun b j _ _=>Fj hk ho wy b j) (by simp[World.putObj]) ?_ ?_ ?_
  · exact(Below.refl _ _).grown hg (by have:=(ao.1 hk).1;omega) (fun i e=>by cases e;omega)
  · intro i x hi hx;have fB:=(ao.1 hi).1;rw[World.putObj_heap_other oM];exact h.others i x hi hx
  · intro b c T lo hi hb hc;by_cases e:b=k
    · subst e;rw[World.putObj_heap_same (ao.1 hk).1] at hc;cases hc;exact absurd rfl (wy _ _ _)
    · rw[World.putObj_heap_other e] at hc;exact h.soft b c T lo hi hb hc
def Xx(P:Program)(Γ:Nat->List AV)(gf:FuncId)(gh:List AV)(xs:List AV):Prop:=
  ∀(S:Nat->AS)(l:Nat)(G:Gh)(W:World)(lb:List Value),G.df=[]->dP G gh lb->eo Γ G (S 0) W->
    (∀i x G1 u W1,xs[i]? =some x->G.le G1->eo Γ G1 (S i) W1->dQ G1 x u->YieldAt bY 0 P l #[u] W1 fun e W'=>e=.returned (.bool true)∧∃G2,G1.le G2∧eo Γ G2 (S (i+1)) W')->
    CallsIn bY 0 P gf (#[.func (.yield l) #[] #[]]++lb.toArray) W fun e W'=>(∃v,e=.returned v)∧∃G2,G.le G2∧eo Γ G2 (S xs.length) W'
theorem Dg{a:Act}{g:Operand}{p:Tmp}{assign body:Code}{gf:FuncId}{gh xs:List AV}(hr:Rel Γ N G E s a w)(Ap:G.df=[])(hg:ef Γ E g=.wm gf gh)(QY:b7 P gf=true)(QZ:Xx P Γ gf gh xs)
    (hp:p<N) (S:Nat->AS) (hS:S 0=s) (E1:AV->Env)
    (Vn:∀(l i:Nat)(x:AV)(G1:Gh)(a1:Act)(W:World),xs[i]? =some x->Rel Γ N G1 (dY E p x) (S i) a1 W->
      assign.wpIn (yq (some l)) 0 P (fun e a' W'=>e=.normal∧∃G2,G1.le G2∧Rel Γ N G2 (E1 x) (S i) a' W') a1 W)
    (xbp:∀(l i:Nat)(x:AV)(G1:Gh)(a1:Act)(W:World),xs[i]? =some x->Rel Γ N G1 (E1 x) (S i) a1 W->
      body.wpIn (yq (some l)) 0 P (fun e a' W'=>e=.normal∧∃G2,G1.le G2∧eo Γ G2 (S (i+1)) W') a1 W):
    (Code.rangeFunc g #[p] assign body).wpIn bY 0 P (fun e a' w'=>e=.normal∧∃D G',G.le G'∧w.heap.size<=D∧w'.heap[D]? =some (.deferred (some []))∧
      a'= {a with defers:={target:=.collected D,args:=#[]}::a.defers}∧eo Γ G' (S xs.length) w') a w:=by
  have YZ:=hr.eval g;rw[hg] at YZ;simp only[dQ] at YZ;obtain⟨lb,hg',Y0⟩:=YZ;have Rg:G.w0.heap.size<=w.heap.size:=hr.st.below.size;have hBw:G.B<=w.heap.size:=hr.st.base;refine wpIn_rangeFunc ?_;intro fn hfn;obtain⟨rec,vj⟩:∃rec:LoopState->Option Code->Loop,rec=fun st pe=>{state:=st,pending:=pe,fn,tmps:=a.tmps,params:=#[p],assign,body,defers:=w.heap.size}:=⟨_,rfl⟩;obtain⟨W1,Vo⟩:∃W1,(w.alloc (.deferred (some []))).alloc (.loop (rec .ready none))=W1:=⟨_,rfl⟩;have Y3:W1.heap[w.heap.size+1]? =some (.loop (rec .ready none)):=by
    rw[<-Vo];have:=World.alloc_heap_new (w.alloc (.deferred (some []))) (.loop (rec .ready none));rwa [World.size_alloc] at this
  have iW:W1.heap[w.heap.size]? =some (.deferred (some [])):=by
    rw[<-Vo];exact(Below.heap_alloc _ _ _ sM).trans (World.alloc_heap_new w _)
  have lA:eo Γ G s W1:=by
    rw[<-Vo];exact(hr.st.alloc _ (by intro c T lo hi e;cases e)).alloc _ (by intro c T lo hi e;cases e)
  refine⟨w.heap.size+1,[{target:=.collected w.heap.size,args:=#[]}],W1,{target:=.fn (.func gf) lb.toArray,args:=#[.func (.yield (w.heap.size+1)) #[] #[]]},W1,gf,
    #[.func (.yield (w.heap.size+1)) #[] #[]]++lb.toArray,W1,?_,?_,?_,?_,(fun e=>by cases e),?_⟩
  · rw[<-Vo,vj];exact run_enterLoop_outer _ _ _ _ _
  · simp only[resolve,hg'];simp[go_sem]
  · intro f' _;trivial
  · have:=ti (w:=W1) QY (#[.func (.yield (w.heap.size+1)) #[] #[]]++lb.toArray);simpa[invoke,go_sem] using this
  · have hsW:eo Γ (G.setW W1) s W1:=lA.setW;refine(QZ S (w.heap.size+1) (G.setW W1) W1 lb Ap (dP.sub (G.mU W1) _ _ Y0) (hS ▸ hsW) ?_).mono ?_
    · rintro i x G1 u W hx hle h2 hu;have Oj:G1.w0=W1:=hle.w0;have Y4:G1.B=G.B:=hle.B;have PG:iA W1 W:=(by have:=h2.others;rwa [Oj] at this);have hl:=PG _ _ Y3 (by intros;simp);have hk:=PG _ _ iW (by intros;simp);have hbW:Below G.B W1 W:=(by have:=h2.below;rwa [Oj,Y4] at this);obtain⟨q1,q2⟩:=lA.yi hle h2;have fB:w.heap.size+1<W.heap.size:=(ao.1 hl).1;have hy:=run_yield (P:=P) (args:=#[u]) hl (by rw[vj];rfl);rw[vj] at hy;refine⟨fn,_,assign,body,hy,roundIn_of_wpIn hfn ?_⟩;have RK:Rel Γ N ((G1.setW G.w0).setW W) (dY E p x) (S i) {tmps:=((#[p]:Array Tmp).zip #[u]).foldl (fun t(p,v)=>t.setIfInBounds p v) a.tmps,defers:=[]} W:=by
        have e3:((#[p]:Array Tmp).zip #[u]).foldl (fun t(p,v)=>t.setIfInBounds p v) a.tmps=a.tmps.setIfInBounds p u:=sM;rw[e3];refine⟨q1.setW,by simp[hr.size],fun k=>?_,by rw[show((G1.setW G.w0).setW W).df=G1.df from rfl,hle.df];exact Ap.symm⟩;refine dQ.sub (G:=G1.setW G.w0) (Gh.mU _ _) _ _ ?_;simp only[dY];split
        · rename_i e;subst e;have :k<a.tmps.size:=(by rw[hr.size];exact hp);simpa[Array.getD,this] using dQ.sub (G1.mU G.w0) _ _ hu
        · rename_i e;have:=dQ.mono q2 _ _ (hr.tmps k);simp only[aR] at this⊢;rw[Array.getElem?_setIfInBounds_ne oM];exact this
      refine wpIn_mono (Vn (w.heap.size+1) i x _ _ W hx RK) ?_;rintro e a1 Wa ⟨rfl,Ga,Fk,PH⟩;have Y5:iA W Wa:=by
        have:=PH.st.others;rwa [show Ga.w0=W from Fk.w0] at this
      have hba:Below G.B W Wa:=by
        have:=PH.st.below;rwa [show Ga.w0=W from Fk.w0,show Ga.B=G.B from Fk.B.trans Y4] at this
      have Y6:=Y5 _ _ hl (by intros;simp);have xfD:=Y5 _ _ hk (by intros;simp);obtain⟨gb1,gb2⟩:=q1.yi Fk PH.st;refine⟨_,run_beginRound Y6 (by rw[vj]),?_⟩;have RL:w.heap.size+1<Wa.heap.size:=(ao.1 Y6).1;obtain⟨W2,RN⟩:∃W2,Wa.putObj (w.heap.size+1) (.loop {rec .ready none with state:=.busy})=W2:=⟨_,rfl⟩;have CM:W2.heap[w.heap.size+1]? =some (.loop {rec .ready none with state:=.busy}):=(by rw[<-RN];exact World.putObj_heap_same RL);have hBa:Ga.B=G.B:=Fk.B.trans Y4;have oq:eo Γ (Ga.setW G.w0) (S i) W2:=by
        rw[<-RN];exact gb1.putObj Y6 (by intros;simp) (by intros;simp) (by show G.w0.heap.size<=_;omega) (by show Ga.B<=_;omega)
      rw[RN];have C3:Rel Γ N ((Ga.setW G.w0).setW W2) (E1 x) (S i) a1 W2:=
        ⟨oq.setW,PH.size,fun k=>dQ.sub (G:=Ga) (G':=(Ga.setW G.w0).setW W2) ⟨rfl,rfl,rfl,rfl⟩ _ _ (PH.tmps k),PH.defers⟩
      refine wpIn_mono (xbp (w.heap.size+1) i x _ _ W2 hx C3) ?_;rintro e a3 W3 ⟨rfl,G2,g1,g2⟩;have Xy:G2.w0=W2:=g1.w0;have hB3:G2.B=G.B:=g1.B.trans hBa;have LC:iA W2 W3:=by
        have:=g2.others;rwa [Xy] at this
      have UI:Below G.B W2 W3:=by
        have:=g2.below;rwa [Xy,hB3] at this
      have Pk:=LC _ _ CM (by intros;simp);obtain⟨g3,g4⟩:=oq.yi g1 g2;have wN:(Instr.endRound (w.heap.size+1) none).run P W3=.ok (.bool true) (W3.putObj (w.heap.size+1) (.loop (rec .ready none))):=by
        have:=run_endRound (P:=P) none Pk;rw[vj] at this⊢;exact this
      have Dh:w.heap.size+1<W3.heap.size:=(ao.1 Pk).1;have MB:=g3.putObj (o':=.loop (rec .ready none)) Pk (by intros;simp) (by intros;simp) (by show G.w0.heap.size<=_;omega) (by show G2.B<=_;omega);have hgr:∀(V:World)(o:Obj),w.heap.size+1<V.heap.size->Below G.B V (V.putObj (w.heap.size+1) o):=fun V o hV=>
        (Below.refl _ _).grown (row:=some (w.heap.size+1)) ⟨rfl,rfl,rfl,by simp[World.putObj],fun i _ hi=>World.putObj_heap_other (fun e=>hi (by rw[e]))⟩ oM (fun i e=>by cases e;omega)
      refine⟨_,_,wN,rfl,G2.setW W1,?_,?_⟩
      · exact⟨fun b j v hv=>g1.ro b j v (Fk.ro b j v hv),fun o b hb=>g1.obj o b (Fk.obj o b hb),fun t e r ht=>g1.tok t e r (Fk.tok t e r ht),g1.B.trans Fk.B,Oj.symm,g1.df.trans Fk.df⟩
      · refine MB.sub (G:=G2.setW G.w0) (G':=G2.setW W1) ⟨rfl,rfl,rfl,rfl⟩ rfl rfl ?_ ?_
        · show Below G2.B W1 _;rw[hB3];refine(hbW.trans hba).trans (Below.trans ?_ (UI.trans (hgr _ _ Dh)));rw[<-RN];exact hgr _ _ RL
        · intro k o RO uS;replace RO:W1.heap[k]? =some o:=RO;by_cases e:k=w.heap.size+1
          · subst e;rw[Y3] at RO;cases RO;exact World.putObj_heap_same Dh
          · rw[World.putObj_heap_other e];refine LC k o ?_ uS;rw[<-RN,World.putObj_heap_other e];exact Y5 k o (PG k o RO uS) uS
    · rintro e W2 ⟨⟨v,rfl⟩,G2,h1,h2⟩;have Oj:G2.w0=W1:=h1.w0;have PG:iA W1 W2:=(by have:=h2.others;rwa [Oj] at this);have hl:=PG _ _ Y3 (by intros;simp);have hk:=PG _ _ iW (by intros;simp);obtain⟨q1,q2⟩:=lA.yi h1 h2;refine⟨none,_,by have:=run_endLoop (P:=P) hl (by rw[vj];simp);rw[vj] at this;exact this,rfl,w.heap.size,G2.setW G.w0,q2,ax _,(World.putObj_heap_other oM).trans hk,rfl,?_⟩;rw[vj] at hl;exact q1.putObj hl (by intros;simp) (by intros;simp) (by show G.w0.heap.size<=_;omega) (by rw[show(G2.setW G.w0).B=G2.B from rfl,h1.B];show G.B<=_;omega)
theorem ud{f:FuncId}{fn:Func}{c:Code}{args:List AV}{fV:AV->AS->Prop}{s:AS}(hf:P.funcs[f]? =some fn)(hb:fn.body=some c)(hn:args.length<=fn.ntmps)
    (h:∀G a w,G.df=[]->Rel Γ fn.ntmps G (eV args) s a w->c.wpIn bY 0 P (fun e a' w'=>(e=.normal∨e=.ret)∧∃D G' E' s',G.le G'∧(G.w0.heap.size<=D∧G.B<=D)∧w'.heap[D]? =some (.deferred (some []))∧
      a'.defers=[{target:=.collected D,args:=#[]}]∧Rel Γ fn.ntmps (G'.gQ a'.defers) E' s' a' w'∧fe P fn.results.toList fV E' s') a w):dS P Γ f args s fV:=by
  intro G w vs hs hv;have Xm:=hv.length;refine(callsIn_wide (n:=0)).1 (callsIn_of_wp_marks hf hb trivial ?_);have C3:Rel Γ fn.ntmps (G.gQ []) (eV args) s {tmps:=vs.toArray++cb (fn.ntmps-vs.toArray.size) undef,defers:=[]} w:=by
    refine⟨hs.gQ,by simp;omega,fun i=>?_,rfl⟩;simp only[eV];by_cases hi:i<args.length
    · obtain⟨u,h1,h2⟩:=hv.getD i hi;have et:i<vs.length:=oM;rw[aR,dr (by simpa using et)];simp only[List.getElem?_toArray,h1,bu];exact dQ.gQ _ _ h2
    · have e1:args.getD i (.v undef)=.v undef:=(by simp[bm,a8 (Nat.le_of_not_lt hi)]);rw[e1,aR,dp (by simp;omega)];simp only[dQ];cases hh:(cb (fn.ntmps-vs.toArray.size) undef)[i-vs.toArray.size]? with
      |none=>rfl
      |some u=>
        rw[dv] at hh;split at hh
        · cases hh;rfl
        · cases hh
  refine wpIn_mono (h _ _ w rfl C3) ?_;rintro e a' w' ⟨he,D,G',E',s',h1,hD,hk,Ap,h2,h3⟩;have Rg:G'.w0.heap.size<=D:=by
    rw[h1.w0];exact hD.1
  have hB:G'.B<=D:=by
    rw[h1.B];exact hD.2
  have fin:LeavesInM bY 0 P fn a'.tmps (fun e w'=>∃G' r v s',e=.returned v∧G.le G'∧eo Γ G' s' w'∧dQ G' r v∧fV r s') a'.defers .returning w':=by
    rw[Ap];refine⟨sM,.inl ⟨D,_,rfl,run_takeDeferred hk,?_⟩⟩;have h4:Rel Γ fn.ntmps (G'.gQ a'.defers) E' s' a' (w'.putObj D (.deferred none)):=⟨h2.st.putObj hk (by intros;simp) (by intros;simp) Rg hB,h2.size,h2.tmps,h2.defers⟩;unfold fe at h3;split at h3
    · rename_i UF LH;obtain⟨r,s2,q1,q2,q3⟩:=h3;obtain⟨zs,r1,r2⟩:=vQ h4 LH;refine⟨if h:zs.toArray.size=1 then zs.toArray[0] else .tuple zs.toArray,?_,G'.gQ G.df,r,_,s2,rfl,Gh.CJ h1,(h4.st.mono q2).gQ (d:=G.df),dQ.gQ (G:=G'.gQ a'.defers) (d:=G.df) _ _ (q1 _ _ (xt r2)),q3⟩;rw[qR,Array.mapM_eq_mapM_toList];simp only[bo,Sem.run_map,r1,aM,bE]
    · exact h3.elim
  rcases he with rfl|rfl
  · exact fin
  · exact fin
theorem fY.wide{c:Code}{Q:Exit->Env->AS->Prop}{a:Act}(h:fY P Γ N c Q E s)(hr:Rel Γ N G E s a w){R:Exit->Act->World->Prop}
    (hq:∀e G' E' s' a' w',G.le G'->Rel Γ N G' E' s' a' w'->Q e E' s'->R e a' w'):c.wpIn bY 0 P R a w:=
  wpIn_mono (F:=yq none) (n:=0) (h G a w hr) fun e a' w' ⟨G',E',s',h1,h2,h3,_⟩=>hq e G' E' s' a' w' h1 h2 h3
theorem fY.behind{c:Code}{Q:Exit->Env->AS->Prop}{a:Act}{G':Gh}{D:Nat}{s':AS}{w':World}(hr:Rel Γ N G E s a w)(hle:G.le G')(hk:w'.heap[D]? =some (.deferred (some [])))(hs:eo Γ G' s' w')(Ap:G.df=[])
    (h:fY P Γ N c Q E s') {R:Exit->Act->World->Prop}
    (hq:∀e ya mW mb CX z8,G.le ya->z8.heap[D]? =some (.deferred (some []))->CX.defers=[{target:=.collected D,args:=#[]}]->Rel Γ N (ya.gQ CX.defers) mW mb CX z8->Q e mW mb->R e CX z8):
    c.wpIn bY 0 P R {a with defers:={target:=.collected D,args:=#[]}::a.defers} w':=by
  have ha:a.defers=[]:=hr.defers.trans Ap;have C3:Rel Γ N ((G'.gQ [{target:=.collected D,args:=#[]}]).setW w') E s' {a with defers:={target:=.collected D,args:=#[]}::a.defers} w':=
    ⟨(hs.gQ).setW,hr.size,fun i=>dQ.sub (Gh.mU _ _) _ _ (dQ.gQ _ _ (dQ.mono hle _ _ (hr.tmps i))),by rw[ha];rfl⟩
  refine h.wide C3 ?_;intro e G2 E2 s2 a2 w2 g1 g2 g3;have LC:iA w' w2:=by
    have:=g2.st.others;rwa [show G2.w0=w' from g1.w0] at this
  have PJ:a2.defers=[{target:=.collected D,args:=#[]}]:=g2.defers.trans g1.df;have hb:=eo.yi (G:=G'.gQ [{target:=.collected D,args:=#[]}]) hs.gQ g1 g2.st;refine hq e (((G2.setW G'.w0)).gQ G'.df) E2 s2 a2 w2 ?_ (LC _ _ hk (by intros;simp)) PJ ?_ g3
  · refine hle.trans ?_;exact⟨hb.2.ro,hb.2.obj,hb.2.tok,hb.2.B,hb.2.w0,rfl⟩
  · refine⟨?_,g2.size,fun i=>?_,rfl⟩
    · exact hb.1.gQ (d:=a2.defers)
    · exact dQ.sub (G:=G2) (G':=((G2.setW G'.w0).gQ G'.df).gQ a2.defers) ⟨rfl,rfl,rfl,rfl⟩ _ _ (g2.tmps i)
end Go.AM
namespace Go.AM
open Go Go.RowKit
variable{rd:Option Nat}{P:Program}{Γ:Nat->List AV}{G:Gh}{s:AS}{w:World}
theorem B6{n:Nat}{T xT e:TypeId}(hT:P.underlying T=some (.slice e)){k:IntKind}(hx:P.underlying xT=some (.int k)){z:List AV}(he:u6 P e z)
    (h0:n≠0) (fN:n*P.bytesOf e<=2^46) (I6:n<=2^46) (ty:TypeId):
    ∃(cap:Nat)(us:List Value),n<=cap∧us.length=cap*P.cellsOf e∧
      (bw #[T,xT] ty #[.slice none 0 0,.int .i64 n]).run P w=.ok (.slice (some ⟨w.heap.size,0,none⟩) n cap) (w.drew.alloc (.cells us.toArray e)):=by
  obtain⟨hz,kv,yo⟩:=he;obtain⟨zv,QT,CQ⟩:=iP hz;obtain⟨i,hi⟩:=la kv;have hb:P.bytesOf e=i.bytes:=(by simp[Program.bytesOf,hi]);have Of:∀w',(typeInfo e).run P w'=.ok i w':=(fun w'=>by simp[typeInfo,hi]);have z7:=nextslicecap_le (need:=n) (old:=0) oM;have tg:¬(2^48<cG n 0*i.bytes):=by
    rw[hb] at fN;have h2:cG n 0*i.bytes<=2*n*i.bytes:=Nat.mul_le_mul_right _ z7;rw[Nat.mul_assoc] at h2;omega
  have xbt:zv.cells.size=P.cellsOf e:=by
    rw[CQ] at yo;simpa using yo
  have hw:IntKind.i64.wrap (n:Int)=n:=IntWalk.i64_in _ oM;have EZ:¬((n:Int)<0):=oM;have gP:¬(n*P.cellsOf e=0):=by
    intro h;rcases Nat.mul_eq_zero.1 h with h|h
    · exact h0 h
    · exact kv h
  have Pn:¬((281474976710656:Int)<(n:Int)*(i.bytes:Int)):=by
    rw[hb] at fN;have :((n*i.bytes:Nat):Int)<=((2^46:Nat):Int):=Int.ofNat_le.2 fN;rw[Int.natCast_mul] at this;omega
  have tf:¬(9223372036854775807<(n:Int)):=oM;refine⟨_,(cc zv.cells n++cc zv.cells ((cv n 0 e).cut (w.tape w.drawn (.appendCap n 0 e))-n)).toList,lg n 0 e (w.tape w.drawn (.appendCap n 0 e)),?_,?_⟩
  · have:=lg n 0 e (w.tape w.drawn (.appendCap n 0 e));simp only[cc,Array.toList_append,List.length_append,Array.length_toList,xbt];simp[xbt];rw[<-Nat.add_mul];congr 1;omega
  · have hf:(cv n 0 e).forced=false:=rfl;have hgt:¬(n<=0):=oM;simp[bw,run_underlying hT,eu kv,run_underlying hx,asInt,asIntOf,hw,EZ,Of,Pn,tf,tg,hf,QT,newRow,gP,h0,Builtin.firstCells];congr 2;apply cF;simp
theorem HC{N:Nat}{E:Env}{Q:Exit->Env->AS->Prop}{id:Nat}(L1 L2 L3:List Oper){oa os:Oper}{T xT e ty:TypeId}{k:IntKind}{x y h:Operand}{d1 d2:Tmp}{z:List AV}
    (hoa:oa.op=.call {callee:=.builtin .append,args:=#[x,y],argTypes:=#[T,xT]}) (hga:oa.guard=none) (hda:oa.dst=some d1) (RP:d1<N)
    (hos:os.op=.slice ty (.tmp d1) none (some h) none) (hgs:os.guard=none) (Xn:os.dst=some d2) (PJ:d2<N)
    (hT:P.underlying T=some (.slice e)) (hty:P.underlying ty=some (.slice e)) (hx:P.underlying xT=some (.int k)) (he:u6 P e z) (Ct:P.cellsOf e=1)
    (hh:AY P Γ N (L1++oa::(L2++os::L3)).toArray L1 (fun E1 s1=>ef Γ E1 x=.v (.slice none 0 0)∧∃n:Nat,ef Γ E1 y=.v (.int .i64 n)∧n≠0∧n*P.bytesOf e<=2^46∧n<=2^46∧
      ∀t v,s1.own t=none->AY P Γ N (L1++oa::(L2++os::L3)).toArray L2 (fun E2 s2=>E2 d1=.v v∧ef Γ E2 h=.v (.int .i64 0)∧
        AY P Γ N (L1++oa::(L2++os::L3)).toArray L3 (fun E' s'=>Q .normal E' s') (dY E2 d2 (.sl 1 0 [] (.own t 0))) s2) (dY E1 d1 (.v v)) (s1.eT t 0)) E s):
    fY P Γ N (.region id (L1++oa::(L2++os::L3)).toArray false) Q E s:=by
  generalize xfH:(L1++oa::(L2++os::L3)).toArray=ops at hh⊢;rw[ay] at hh;intro G a w hr;refine wpIn_region ?_;have fG:∀ops:Array Oper,(aq ops.size).map (ops[·]?)=ops.toList.map some:=by
    intro ops;apply br;intro i;simp only[aN];by_cases hi:i<ops.size
    · simp[hi]
    · simp[hi]
  have vi:=fG ops;generalize hI:aq ops.size=I at vi;have lJ:ops.toList=L1++oa::(L2++os::L3):=(by rw[<-xfH]);rw[lJ] at vi;have RQ:∀(I:List Nat)(A:List Oper)(o:Oper)(B:List Oper),I.map (ops[·]?)=(A++o::B).map some->∃I1 i I2,I=I1++i::I2∧I1.map (ops[·]?)=A.map some∧ops[i]? =some o∧I2.map (ops[·]?)=B.map some:=by
    intro I A o B hm;have h1:(I.take A.length).map (ops[·]?)=A.map some:=(by rw[List.map_take,hm];simp);have h2:(I.drop A.length).map (ops[·]?)=(o::B).map some:=(by rw[List.map_drop,hm];simp);generalize hI2:I.drop A.length=J at h2;cases J with
    |nil=>simp at h2
    |cons i I2=>
      simp only[aG,cM] at h2;exact⟨I.take A.length,i,I2,by rw[<-hI2,bW],h1,h2.1,h2.2⟩
  obtain⟨I1,i1,J,rfl,m1,mo1,mJ⟩:=RQ I L1 oa (L2++os::L3) vi;obtain⟨I2,i2,I3,rfl,m2,mo2,m3⟩:=RQ J L2 os L3 mJ;refine jn L1 I1 (i1::(I2++i2::I3)) m1 (ja _ hh) hr ?_;rintro G1 E1 s1 a1 w1 mC wM ⟨⟨hxe,n,hye,hn0,hnb,xfI,hk⟩,HA⟩;rw[wpOpsIn_cons];simp only[wpOpIn,mo1];rw[if_pos (jq hga)];have sY:=wM.eval x;rw[hxe] at sY;have B2:=wM.eval y;rw[hye] at B2;simp only[dQ] at sY B2;obtain⟨cap,us,mV,qd,qK⟩:=B6 (P:=P) (w:=w1) hT hx he hn0 hnb xfI oa.type;have hto:s1.own G1.nt=none:=wM.st.nj (ax _);obtain⟨G2,g1,g2,g3,g4,g5,g6⟩:=wM.st.drew.uX [] us e G1.nt 0 (fun e' _=>wM.st.fW _ (ax _) e');simp only[aP,aX] at g2 g4;rw[qd,Ct,Nat.mul_one] at g4;have hk:=hk G1.nt (.slice (some ⟨w1.heap.size,0,none⟩) n cap) hto;have xbx:(execOp a1.eval oa).run P w1=.ok (.value (.slice (some ⟨w1.heap.size,0,none⟩) n cap)) (w1.drew.alloc (.cells us.toArray e)):=by
    rw[ik hoa];simp[builtin,sY,B2,qK]
  refine⟨fun _ _=>trivial,?_⟩;rw[Oper.semAt_eq _ _ _ (xbn xbx)];rw[xbx];simp only[dG];have vR:=wM.put (dst:=oa.dst) g1 g2 (r:=.v (.slice (some ⟨w1.heap.size,0,none⟩) n cap)) (v:=.slice (some ⟨w1.heap.size,0,none⟩) n cap) (by simp[dQ]) (by intro d hd;rw[hda] at hd;cases hd;exact RP);rw[hda] at vR⊢;simp only[eR] at vR;refine jn L2 I2 (i2::I3) m2 (ja _ hk) vR ?_;rintro G3 E3 s3 a3 w3 Xw wN ⟨⟨hd,hhe,hk3⟩,Y7⟩;rw[wpOpsIn_cons];simp only[wpOpIn,mo2];rw[if_pos (jq hgs)];have Xz:=wN.tmps d1;rw[hd] at Xz;have hhr:=wN.eval h;rw[hhe] at hhr;simp only[dQ] at Xz hhr;have hb:=gZ (P:=P) (isSlice:=true) (len:=n) (cap:=cap) (l:=0) (h:=0) (lo:=none) (hi:=some (.int .i64 0)) (.inl ⟨rfl,rfl⟩) (.inr ⟨_,rfl⟩) (bB 0) (bB 0) oM w3;have LJ:P.cellsOf e≠0:=he.2.1;have xbz:(Instr.sliceAt ty (.slice (some ⟨w1.heap.size,0,none⟩) n cap) none (some (.int .i64 0)) none).run P w3=.ok (.slice (some ⟨w1.heap.size,0,none⟩) 0 cap) w3:=by
    rw[lh hty];simp[Instr.slice,run_underlying hty,hb,eu LJ,Addr.add]
  have hex:(execOp a3.eval os).run P w3=.ok (.value (.slice (some ⟨w1.heap.size,0,none⟩) 0 cap)) w3:=by
    obtain⟨dst,op,type,pos,after,guard⟩:=os;simp only at hos;subst hos;have e1:a3.eval (.tmp d1)=.slice (some ⟨w1.heap.size,0,none⟩) n cap:=Xz;simp[execOp,e1,hhr,xbz]
  refine⟨fun _ _=>trivial,?_⟩;rw[Oper.semAt_eq _ _ _ (xbn hex)];rw[hex];simp only[dG];have I8:=wN.put (dst:=os.dst) (Gh.le.refl G3) wN.st (r:=.sl 1 0 [] (.own G1.nt 0)) (v:=.slice (some ⟨w1.heap.size,0,none⟩) 0 cap) (by
    simp only[dQ];refine .inl ⟨w1.heap.size,0,cap,[],rfl,sM,oM,by simp[dP],fun j u hj=>by simp at hj,?_⟩;simp only[ke,Nat.zero_mul,Nat.add_zero,bf,Nat.mul_one];have:=Xw.tok _ _ _ g4;simpa using this) (by intro d RI;rw[Xn] at RI;cases RI;exact PJ)
  rw[Xn] at I8⊢;simp only[eR] at I8;refine qN L3 I3 m3 (ja _ hk3) I8 ?_;rintro G5 E5 s5 a5 w5 hG5 Vp ⟨hk5,xfK⟩;refine⟨G5,E5,s5,mC.trans (g1.trans (Xw.trans hG5)),Vp,hk5,?_⟩;intro i hi;have mem:∀L:List Oper,i∈fT L↔∃o∈L,o.dst=some i:=(fun L=>by simp[fT,cw]);simp only[writes] at hi;rw[lJ] at hi;have et:¬∃o'∈L1++oa::(L2++os::L3),o'.dst=some i:=fun hm=>hi ((mem _).2 hm);have q1:i∉fT L1:=fun hm=>et (by obtain⟨o,k1,k2⟩:=(mem _).1 hm;exact⟨o,by simp[k1],k2⟩);have q2:i∉fT L2:=fun hm=>et (by obtain⟨o,k1,k2⟩:=(mem _).1 hm;exact⟨o,by simp[k1],k2⟩);have q3:i∉fT L3:=fun hm=>et (by obtain⟨o,k1,k2⟩:=(mem _).1 hm;exact⟨o,by simp[k1],k2⟩);have q4:i≠d1:=fun e=>et ⟨oa,sM,by rw[e];exact hda⟩;have q5:i≠d2:=fun e=>et ⟨os,sM,by rw[e];exact Xn⟩;rw[xfK i q3,lE _ _ q5,Y7 i q2,lE _ _ q4,HA i q1]
theorem Di{N:Nat}{E:Env}{Q:Exit->Env->AS->Prop}{id:Nat}{o1 o2 o3 o4 o5 oa o7 o8 os nP:Oper}{T xT e ty:TypeId}{k:IntKind}{x y h:Operand}{d1 d2:Tmp}{z:List AV}
    (hoa:oa.op=.call {callee:=.builtin .append,args:=#[x,y],argTypes:=#[T,xT]}) (hga:oa.guard=none) (hda:oa.dst=some d1) (RP:d1<N)
    (hos:os.op=.slice ty (.tmp d1) none (some h) none) (hgs:os.guard=none) (Xn:os.dst=some d2) (PJ:d2<N)
    (hT:P.underlying T=some (.slice e)) (hty:P.underlying ty=some (.slice e)) (hx:P.underlying xT=some (.int k)) (he:u6 P e z) (Ct:P.cellsOf e=1)
    (hh:∀ops:Array Oper,AY P Γ N ops [o1,o2,o3,o4,o5] (fun E1 s1=>ef Γ E1 x=.v (.slice none 0 0)∧∃n:Nat,ef Γ E1 y=.v (.int .i64 n)∧n≠0∧n*P.bytesOf e<=2^46∧n<=2^46∧
      ∀t v,s1.own t=none->AY P Γ N ops [o7,o8] (fun E2 s2=>E2 d1=.v v∧ef Γ E2 h=.v (.int .i64 0)∧
        AY P Γ N ops [nP] (fun E' s'=>Q .normal E' s') (dY E2 d2 (.sl 1 0 [] (.own t 0))) s2) (dY E1 d1 (.v v)) (s1.eT t 0)) E s):
    fY P Γ N (.region id #[o1,o2,o3,o4,o5,oa,o7,o8,os,nP] false) Q E s:=
  HC [o1,o2,o3,o4,o5] [o7,o8] [nP] hoa hga hda RP hos hgs Xn PJ hT hty hx he Ct (hh _)
def iN(s:AS)(l:List UInt8)(r:AV)(s':AS):Prop:=
  s.le s'∧((l=[]∧r=.v (.slice none 0 0))∨∃t e,s.own t=none∧s'.own t=some e∧r=.sl 1 l.length (l.map cU) (.own t e))
theorem iN.nil(s:AS):iN s [] (.v (.slice none 0 0)) s:=⟨AS.le.refl s,.inl ⟨rfl,rfl⟩⟩
theorem iN.dV{s s':AS}{l:List UInt8}{r:AV}(h:iN s l r s'):r.dV (dm l .any):=by
  rcases h.2 with⟨rfl,rfl⟩|⟨t,e,_,_,rfl⟩
  · exact AV.eh
  · exact AV.fc
theorem Fl(l:List UInt8):(l.map cU).all AV.one=true:=by
  rw[aB];intro x hx;obtain⟨n,_,rfl⟩:=bR.1 hx;rfl
theorem hJ{e:TypeId}{K:AV->AS->Prop}{s s1:AS}{l ds:List UInt8}{r:AV}{m:Nat}{cs:List AV}(h:iN s l r s1)(hm:m=ds.length)(LJ:cs=ds.map cU)(he:P.cellsOf e=1)(hb:P.bytesOf e=1)(hlen:l.length+ds.length<=2^45)
    (hk:∀r2 s2,iN s (l++ds) r2 s2->K r2 s2):lB P e r m cs s1 K:=by
  subst hm LJ;rcases h.2 with⟨rfl,rfl⟩|⟨t,g,h1,h2,rfl⟩
  · rw[vb];split
    · rename_i h0;have :ds=[]:=al h0;subst this;exact hk _ _ h
    · rename_i h0;rw[he,hb];simp only[aX,bf] at hlen;refine⟨oM,oM,fun t ht=>hk _ _ ?_⟩;refine⟨AS.eE h.1 ?_ 0,.inr ⟨t,0,?_,AS.iR _ _ _,sM⟩⟩;all_goals
        cases hs:s.own t with
        |none=>rfl
        |some g=>rw[h.1.own t g hs] at ht;cases ht
  · rw[vd];split
    · rename_i h0;have :ds=[]:=al h0;subst this;exact hk _ _ (by simpa using h)
    · rename_i h0;rw[he,hb];refine⟨rfl,oM,oM,Fl ds,h2,hk _ _ ?_⟩;exact⟨AS.eE h.1 h1 _,.inr ⟨t,g+1,h1,AS.iR _ _ _,sM⟩⟩
end Go.AM
namespace Go.AM
open Go Go.RowKit
variable{P:Program}{Γ:Nat->List AV}{G:Gh}{s:AS}{w:World}{N:Nat}{E:Env}
theorem HD{ρ:Operand->Value}{o:Oper}{f x:Operand}{ts:Array TypeId}{l:Nat}(ho:o.op=.call {callee:=.value f,args:=#[x],argTypes:=ts})(hf:ρ f=.func (.yield l) #[] #[]):
    (execOp ρ o).run P w=(Instr.yield l #[ρ x]).run P w:=by
  obtain⟨dst,op,type,pos,after,guard⟩:=o;simp only at ho;subst ho;simp[execOp,resolve,hf,Deferred.ofValue,invoke]
theorem Gj(ops:Array Oper):(aq ops.size).map (ops[·]?)=ops.toList.map some:=by
  apply br;intro i;simp only[aN];by_cases hi:i<ops.size
  · simp[hi]
  · simp[hi]
theorem Gk{ops:Array Oper}{I:List Nat}{A B:List Oper}{o:Oper}(hm:I.map (ops[·]?)=(A++o::B).map some):∃I1 i I2,I=I1++i::I2∧I1.map (ops[·]?)=A.map some∧ops[i]? =some o∧I2.map (ops[·]?)=B.map some:=by
  have h1:(I.take A.length).map (ops[·]?)=A.map some:=(by rw[List.map_take,hm];simp);have h2:(I.drop A.length).map (ops[·]?)=(o::B).map some:=(by rw[List.map_drop,hm];simp);generalize hI2:I.drop A.length=J at h2;cases J with
  |nil=>simp at h2
  |cons i I2=>
    simp only[aG,cM] at h2;exact⟨I.take A.length,i,I2,by rw[<-hI2,bW],h1,h2.1,h2.2⟩
theorem Dj{l id:Nat}(L1 L2:List Oper){o:Oper}{f x:Operand}{ts:Array TypeId}{a:Act}{Q:Exit->Act->World->Prop}{K1:Env->AS->Prop}{K2:Env->AS->Prop}
    (ho:o.op=.call {callee:=.value f,args:=#[x],argTypes:=ts}) (hg:o.guard=none) (hd:∀d,o.dst=some d->d<N)
    (h1:AY P Γ N (L1++o::L2).toArray L1 (fun E1 s1=>ef Γ E1 f=.v (.func (.yield l) #[] #[])∧K1 E1 s1) E s) (hr:Rel Γ N G E s a w)
    (hy:∀G1 E1 s1 a1 w1,G.le G1->Rel Γ N G1 E1 s1 a1 w1->K1 E1 s1->YieldAt bY 0 P l #[a1.eval x] w1 fun e W'=>e=.returned (.bool true)∧∃G2 s2,G1.le G2∧eo Γ G2 s2 W'∧
      AY P Γ N (L1++o::L2).toArray L2 K2 (eR E1 o.dst (.v (.bool true))) s2)
    (hq:∀G' E' s' a' w',G.le G'->Rel Γ N G' E' s' a' w'->K2 E' s'->Q .normal a' w'):(Code.region id (L1++o::L2).toArray false).wpIn bY 0 P Q a w:=by
  rw[ay] at h1;refine wpIn_region ?_;have vi:=Gj (L1++o::L2).toArray;generalize aq (L1++o::L2).toArray.size=I at vi⊢;obtain⟨I1,i,I2,rfl,m1,mo,m2⟩:=Gk (A:=L1) (B:=L2) (o:=o) vi;refine nO (l:=none) L1 I1 (i::I2) m1 h1 hr ?_;rintro G1 E1 s1 a1 w1 mC wM ⟨hf,LO⟩;have I9:=wM.eval f;rw[hf] at I9;simp only[dQ] at I9;obtain⟨fn,tmps,assign,body,q1,q2⟩:=hy G1 E1 s1 a1 w1 mC wM LO;simp only[wpOpsIn,mo];rw[if_pos (jq hg)];refine⟨fun _ _=>trivial,?_⟩;rw[Oper.semAt_eq _ _ _ (by intro c;rw[ho];simp),HD ho I9,q1];rw[Oper.uponIn_round];refine⟨fun e=>(by cases e),RoundIn.mono (F:=bY) q2 ?_⟩;rintro e W' ⟨rfl,G2,s2,g1,g2,g3⟩;rw[ay] at g3;have vR:Rel Γ N G2 E1 s2 a1 W':=⟨g2,wM.size,fun i=>dQ.mono g1 _ _ (wM.tmps i),wM.defers.trans g1.df.symm⟩;have wN:=vR.put (dst:=o.dst) (Gh.le.refl G2) g2 (r:=.v (.bool true)) (v:=.bool true) (by simp[dQ]) hd;exact tu (l:=none) L2 I2 m2 g3 wN fun G3 E3 s3 a3 w3 h3 wN hk=>hq G3 E3 s3 a3 w3 (mC.trans (g1.trans h3)) wN hk
theorem Aq{l id:Nat}{o1 o2 o3 o4 o5 o6 o7 o8 o9 nP o Dk:Oper}{f x:Operand}{ts:Array TypeId}{a:Act}{Q:Exit->Act->World->Prop}(K1 K2:Env->AS->Prop)
    (ho:o.op=.call {callee:=.value f,args:=#[x],argTypes:=ts}) (hg:o.guard=none) (hd:∀d,o.dst=some d->d<N)
    (h1:∀ops,AY P Γ N ops [o1,o2,o3,o4,o5,o6,o7,o8,o9,nP] (fun E1 s1=>ef Γ E1 f=.v (.func (.yield l) #[] #[])∧K1 E1 s1) E s) (hr:Rel Γ N G E s a w)
    (hy:∀ops G1 E1 s1 a1 w1,G.le G1->Rel Γ N G1 E1 s1 a1 w1->K1 E1 s1->YieldAt bY 0 P l #[a1.eval x] w1 fun e W'=>e=.returned (.bool true)∧∃G2 s2,G1.le G2∧eo Γ G2 s2 W'∧
      AY P Γ N ops [Dk] K2 (eR E1 o.dst (.v (.bool true))) s2)
    (hq:∀G' E' s' a' w',G.le G'->Rel Γ N G' E' s' a' w'->K2 E' s'->Q .normal a' w'):(Code.region id #[o1,o2,o3,o4,o5,o6,o7,o8,o9,nP,o,Dk] false).wpIn bY 0 P Q a w:=
  Dj (K1:=K1) (K2:=K2) [o1,o2,o3,o4,o5,o6,o7,o8,o9,nP] [Dk] ho hg hd (h1 _) hr (hy _) hq
theorem Rel.entry{args:List AV}{vs:List Value}(hs:eo Γ G s w)(hv:dP G args vs)(hn:args.length<=N)(Ap:G.df=[]):
    Rel Γ N G (eV args) s {tmps:=vs.toArray++cb (N-vs.toArray.size) undef,defers:=[]} w:=by
  have Xm:=hv.length;refine⟨hs,by simp;omega,fun i=>?_,Ap.symm⟩;simp only[eV];by_cases hi:i<args.length
  · obtain⟨u,h1,h2⟩:=hv.getD i hi;have et:i<vs.length:=oM;rw[aR,dr (by simpa using et)];simp only[List.getElem?_toArray,h1,bu];exact h2
  · have e1:args.getD i (.v undef)=.v undef:=(by simp[bm,a8 (Nat.le_of_not_lt hi)]);rw[e1,aR,dp (by simp;omega)];simp only[dQ];cases hh:(cb (N-vs.toArray.size) undef)[i-vs.toArray.size]? with
    |none=>rfl
    |some u=>
      rw[dv] at hh;split at hh
      · cases hh;rfl
      · cases hh
end Go.AM
namespace Go.AM
open Go Go.RowKit
variable{P:Program}{Γ:Nat->List AV}{N:Nat}
theorem kx.trans{E E' mW:Env}{s s' mb:AS}(h:kx Γ N E s E' s')(k:kx Γ N E' s' mW mb):kx Γ N E s mW mb:=by
  intro G a w hr;obtain⟨G1,h1,h2⟩:=h G a w hr;obtain⟨G2,k1,k2⟩:=k G1 a w h2;exact⟨G2,h1.trans k1,k2⟩
theorem nQ{E:Env}{s:AS}{Q:Exit->Env->AS->Prop}(d1 d2:Nat){id:Nat}{L:List Oper}{y:Code}(RP:d1∈fT L)(PJ:d2∈fT L)(gP:d1≠d2)
    (h:∀K:Env->AS->Prop,(∀E s o1 o2 LP LM,E d1=.ptr o1 0->E d2=.ptr o2 0->s.dD o1=none->(s.set o1 LP).dD o2=none->fY P Γ N y Q (dY (dY E d2 (.ij LM)) d1 (.ij LP)) s->K E ((s.set o1 LP).set o2 LM))->AY P Γ N L.toArray L K E s):
    fY P Γ N (.seq (.region id L.toArray false) y) Q E s:=by
  refine oX (sG ?_);have:=h (fun E' s'=>∃mW mb,kx Γ N E' s' mW mb∧(∀i,i∉fT L->mW i=E' i)∧dJ (fY P Γ N y Q) Q .normal mW mb) ?_
  · rw[ay] at this;simpa using this
  · intro E' s' o1 o2 LP LM h1 h2 h3 h4 h5;refine⟨dY (dY E' d2 (.ij LM)) d1 (.ij LP),s',?_,?_,h5⟩
    · have g1:=kx.oH (Γ:=Γ) (N:=N) (E:=E') (s:=(s'.set o1 LP).set o2 LM) (d:=d2) h2 (AS.bG _ _ _);rw[AS.drop_set h4] at g1;have g2:=kx.oH (Γ:=Γ) (N:=N) (E:=dY E' d2 (.ij LM)) (s:=s'.set o1 LP) (d:=d1) (by rw[lE _ _ gP];exact h1) (AS.bG _ _ _);rw[AS.drop_set h3] at g2;exact g1.trans g2
    · intro i hi;rw[lE _ _ (fun e=>hi (by rw[e];exact RP)),lE _ _ (fun e=>hi (by rw[e];exact PJ))]
theorem AS.RR{s:AS}{o:Nat}{cs:List AV}(h:s.dD o=some cs):s.set o cs=s:=by
  cases s with
  |mk dD own=>
    simp only[AS.set,AS.mk.injEq,and_true];funext i;simp only[dY];split
    · rename_i e;subst e;exact h.symm
    · rfl
end Go.AM
namespace Go.AM
open Go Go.RowKit
variable{P:Program}{Γ:Nat->List AV}{G:Gh}{s:AS}{w:World}
theorem HE{ρ:Operand->AV}{ρ':Operand->Value}{o:Oper}{src dst e:TypeId}{x:Operand}{l:List UInt8}(ho:o.op=.convert src dst x)(LD:P.underlying src=some .string)(LF:P.underlying dst=some (.slice e))(he:P.underlying e=some (.int .u8))
    (hx:ρ x=.v (.string ⟨l.toArray⟩)) (hρ:∀x,dQ G (ρ x) (ρ' x)) (hs:eo Γ G s w):
    iB P Γ G (fun r s'=>iN s l r s') ((execOp ρ' o).run P w):=by
  have sY:=hρ x;rw[hx] at sY;simp only[dQ] at sY;obtain⟨cap,hle,qK⟩:=rP (P:=P) e (⟨l.toArray⟩:ByteArray) w;have kv:(⟨l.toArray⟩:ByteArray).size=l.length:=rfl;have LG:(⟨l.toArray⟩:ByteArray).data.toList=l:=rfl;rw[kv] at hle qK;rw[LG] at qK;have hto:s.own G.nt=none:=hs.nj (ax _);obtain⟨G',h1,h2,h3,h4⟩:=hs.stringToBytes e l (cap-l.length) cap oM G.nt 0 (fun e' _=>hs.fW _ (ax _) e');have hr:(convert src dst (ρ' x)).run P w=.ok (.slice (some ⟨w.heap.size,0,none⟩) l.length cap) ((w.drew.alloc (.cells (iH l++mA (cap-l.length)).toArray e)).freeze ⟨w.heap.size,cap,none⟩ 1):=by
    rw[sY,<-qK];simp[convert,run_underlying LD,run_underlying LF,run_underlying he]
  refine(show execOp ρ' o=(do pure (.value (<-convert src dst (ρ' x)))) by
    obtain⟨d,op,type,pos,after,guard⟩:=o;simp only at ho;subst ho;rfl) ▸ iQ ⟨G',_,_,.sl 1 l.length (l.map cU) (.own G.nt 0),s.eT G.nt 0,hr,h1,h2,?_,AS.eE (AS.le.refl s) hto 0,.inr ⟨G.nt,0,hto,AS.iR _ _ _,rfl⟩⟩
  simp only[dQ];exact .inl ⟨w.heap.size,0,cap,iH l,rfl,sM,hle,rN _,h3,by simpa[ke] using h4⟩
theorem HF{N:Nat}{E:Env}{Q:Exit->Env->AS->Prop}{id:Nat}{L2:List Oper}{o1 o:Oper}{code:Code}(hg:o.guard=none)(hd:∀d,o.dst=some d->d<N)
    (h:∀ops,AY P Γ N ops [o1] (fun E1 s1=>∃K1:AV->AS->Prop,(∀G a w,Rel Γ N G E1 s1 a w->iB P Γ G K1 ((execOp a.eval o).run P w))∧
      ∀r s2,K1 r s2->AY P Γ N ops L2 (fun E' s'=>fY P Γ N code Q E' s') (eR E1 o.dst r) s2) E s):
    fY P Γ N (.seq (.region id (o1::o::L2).toArray false) code) Q E s:=
  vg [o1] L2 hg hd (h _)
end Go.AM
namespace Go.AM
open Go Go.RowKit
theorem AV.vk{sz n:Nat}{cs ds:List AV}{sp:Sp}(h:kj.dV cs ds):(AV.sl sz n cs sp).dV (.sl sz n ds sp):=by
  intro G v hv;simp only[dQ] at hv⊢;have wo:cs=[]->ds=[]:=fun e=>by
    have:=h G [] (by rw[e];simp[dP]);cases ds with
    |nil=>rfl
    |cons d ds=>simp only[dP] at this;obtain⟨u,us,h1,_⟩:=this;cases h1
  rcases hv with⟨b,off,cap,vs,h1,h2,h3,h4,h5,h6⟩|⟨h1,h2,h3⟩|⟨h1,h2,h3⟩
  · refine .inl ⟨b,off,cap,vs,h1,?_,h3,h G vs h4,h5,h6⟩;have e1:=h4.length;have e2:=(h G vs h4).length;omega
  · exact .inr (.inl ⟨h1,wo h2,h3⟩)
  · exact .inr (.inr ⟨h1,wo h2,h3⟩)
theorem AV.dV.trans{a b c:AV}(h:a.dV b)(k:b.dV c):a.dV c:=fun G v hv=>k G v (h G v hv)
end Go.AM
namespace Go.AM
open Go Go.RowKit
variable{rd:Option Nat}{P:Program}{Γ:Nat->List AV}{N:Nat}
def Q0(P:Program)(Γ:Nat->List AV)(N:Nat)(c:Code)(Q:Exit->Env->AS->Prop)(E:Env)(s:AS):Prop:=
  ∀(G:Gh)(a:Act)(w:World),Rel Γ N G E s a w->∀{rd:Option Nat},c.wpIn (yq rd) 0 P (fun e a' w'=>∃G' E' s',G.le G'∧Rel Γ N G' E' s' a' w'∧Q e E' s') a w
section
variable{E:Env}{s:AS}{Q:Exit->Env->AS->Prop}
theorem fY.g{c:Code}(h:fY P Γ N c Q E s):Q0 P Γ N c Q E s:=fun G a w hr=>wpIn_mono (h G a w hr) fun e a' w' ⟨G',E',s',h1,h2,h3,_⟩=>⟨G',E',s',h1,h2,h3⟩
theorem Vq{x y:Code}(h:Q0 P Γ N x (dJ (Q0 P Γ N y Q) Q) E s):Q0 P Γ N (.seq x y) Q E s:=by
  intro G a w hr;refine wpIn_seq (wpIn_mono (h G a w hr) ?_);rintro e a' w' ⟨G',E',s',h1,h2,h3⟩;cases e<;>simp only[Exit.then,dJ] at h3⊢;case normal=>
    refine wpIn_mono (h3 G' a' w' h2) ?_;rintro e CX z8 ⟨ya,mW,mb,k1,k2,k3⟩;exact⟨ya,mW,mb,h1.trans k1,k2,k3⟩
  all_goals exact⟨G',E',s',h1,h2,h3⟩
theorem fo{x y:Code}(h:∀K:Env->AS->Prop,(∀E s,Q0 P Γ N y Q E s->K E s)->fY P Γ N x (dJ K Q) E s):Q0 P Γ N (.seq x y) Q E s:=
  Vq (h _ fun _ _ h=>h).g
theorem vS{c:Code}{E':Env}{s':AS}(g:kx Γ N E s E' s')(h:Q0 P Γ N c Q E' s'):Q0 P Γ N c Q E s:=by
  intro G a w hr;obtain⟨G1,k1,k2⟩:=g G a w hr;exact wpIn_mono (h G1 a w k2) fun e a' w' ⟨G',E',s',h1,h2,h3⟩=>⟨G',E',s',k1.trans h1,h2,h3⟩
end
theorem PK{f:FuncId}{fn:Func}{c:Code}{args:List AV}{fV:AV->AS->Prop}{s:AS}(hf:P.funcs[f]? =some fn)(hb:fn.body=some c)(hn:args.length<=fn.ntmps)
    (h:Q0 P Γ fn.ntmps c (fX P fn.results.toList fV) (eV args) s):dS P Γ f args s fV:=by
  intro G w vs hs hv;have Xm:=hv.length;refine calls_of_wp hf hb ?_;have C3:Rel Γ fn.ntmps (G.gQ []) (eV args) s {tmps:=vs.toArray++cb (fn.ntmps-vs.toArray.size) undef,defers:=[]} w:=by
    refine⟨hs.gQ,by simp;omega,fun i=>?_,rfl⟩;simp only[eV];by_cases hi:i<args.length
    · obtain⟨u,h1,h2⟩:=hv.getD i hi;have et:i<vs.length:=oM;rw[aR,dr (by simpa using et)];simp only[List.getElem?_toArray,h1,bu];exact dQ.gQ _ _ h2
    · have e1:args.getD i (.v undef)=.v undef:=(by simp[bm,a8 (Nat.le_of_not_lt hi)]);rw[e1,aR,dp (by simp;omega)];simp only[dQ];cases hh:(cb (fn.ntmps-vs.toArray.size) undef)[i-vs.toArray.size]? with
      |none=>rfl
      |some u=>
        rw[dv] at hh;split at hh
        · cases hh;rfl
        · cases hh
  refine wpIn_wide.1 (wpIn_mono (F:=yq none) (n:=0) (h _ _ w C3) ?_);rintro e a' w' ⟨G',E',s',h1,h2,h3⟩;have fin:fe P fn.results.toList fV E' s'->bodyPost P fn (fun e w'=>∃G' r v s',e=.returned v∧G.le G'∧eo Γ G' s' w'∧dQ G' r v∧fV r s') .normal a' w':=by
    intro hF;unfold fe at hF;split at hF
    · rename_i UF LH;obtain⟨r,s2,q1,q2,q3⟩:=hF;obtain⟨zs,r1,r2⟩:=vQ h2 LH;refine⟨h2.defers.trans h1.df,if h:zs.toArray.size=1 then zs.toArray[0] else .tuple zs.toArray,?_,G'.gQ G.df,r,_,s2,rfl,Gh.CJ h1,(h2.st.mono q2).gQ,dQ.gQ _ _ (q1 _ _ (xt r2)),q3⟩;rw[qR,Array.mapM_eq_mapM_toList];simp only[bo,Sem.run_map,r1,aM,bE]
    · exact hF.elim
  cases e<;>simp only[fX] at h3;case normal=>exact fin h3
  case ret=>exact fin h3
theorem rT{f:FuncId}{fn:Func}{c:Code}{rs:Array ResultVar}{N:Nat}{args:List AV}{fV:AV->AS->Prop}{s:AS}(hf:P.funcs[f]? =some fn)(hb:fn.body=some c)(hN:fn.ntmps=N)(QW:fn.results=rs)(hn:args.length<=N)
    (h:Q0 P Γ N c (fX P rs.toList fV) (eV args) s):dS P Γ f args s fV:=by
  subst hN QW;exact PK hf hb hn h
end Go.AM
namespace Go.AM
open Go Go.RowKit Go.ChangeShapes
variable{H:Type}{enc:TypeId×Value->H}{P:Program}
theorem HG{w:World}{base:Nat}{spare:Nat->Bool}{held:Bool}{fuel:Nat}{t e:TypeId}{d:DataW H}{p:List MemPlace}{v:Value}{ts:List TypeId}{ds:List (DataW H)}{j:Nat}(hu:P.underlying t=some (.slice e))
    (hz:(DataW.weightsEach P ts ds).all (·<=reachBytes)=true) (ht:ts[j]? =some t) (hd:ds[j]? =some d) (h:DataW.trod enc P w base spare held fuel t v.cells.toList=some (d,p)) (hb:1<=P.bytesOf e):
    ∀a l c,v=.slice a l c->l<=reachBytes:=by
  rintro a l c rfl;simp only[dg] at h;rcases DataW.trod_slice hu h with⟨h1,_⟩|⟨a',len,cap,elems,rest,n,_,h1,h2,_,_,_,hlen,_⟩
  · simp only[cM,Value.slice.injEq,and_true] at h1;omega
  · simp only[cM,Value.slice.injEq,and_true] at h1;simp only[Prod.mk.injEq] at h2;obtain⟨rfl,_⟩:=h2;have:=sized_slice hz ht hd hu;simp only[List.length_map] at this;have h3:(elems.length+rest.length)*1<=(elems.length+rest.length)*P.bytesOf e:=Nat.mul_le_mul_left _ hb;omega
end Go.AM
namespace Go.AM
open Go Go.RowKit
variable{P:Program}{Γ:Nat->List AV}{G:Gh}{s:AS}{w:World}
end Go.AM
namespace Go.AM
open Go Go.RowKit Go.ChangeShapes
variable{H:Type}{enc:TypeId×Value->H}{P:Program}
theorem oY{w:World}{base:Nat}{spare:Nat->Bool}{held:Bool}{fuel:Nat}{t e:TypeId}{d:DataW H}{p:List MemPlace}{cs:List Value}{ts:List TypeId}{ds:List (DataW H)}{j:Nat}{fs:Array Field}(hu:P.underlying t=some (.struct fs))
    (hz:(DataW.weightsEach P ts ds).all (·<=reachBytes)=true) (ht:ts[j]? =some t) (hd:ds[j]? =some d) (h:DataW.trod enc P w base spare held fuel t cs=some (d,p)) (i:Nat) {f:Field} (hf:fs[i]? =some f)
    (he:P.underlying f.type=some (.slice e)) (hb:1<=P.bytesOf e) (hc:P.cellsOf f.type=1):∀a l c,cs[f.offset]? =some (.slice a l c)->l<=reachBytes:=by
  intro a l c LJ;obtain⟨xs,n,_,hx,hl,Pu,fG⟩:=DataW.trod_struct hu h;simp only[Prod.mk.injEq] at hx;obtain⟨rfl,_⟩:=hx;have h1:=fG i f hf;have hi:i<fs.size:=(ao.1 hf).1;rw[hc,show(cs.drop f.offset).take 1=[.slice a l c] from by
    obtain⟨k1,k2⟩:=List.getElem?_eq_some_iff.1 LJ;rw[List.drop_eq_getElem_cons k1,k2];rfl,ag oM] at h1
  have hw:(DataW.weightsEach P (fs.toList.map (·.type)) (xs.map (·.1))).all (·<=reachBytes)=true:=by
    rw[aB];intro m hm;exact aB.1 hz m (DataW.weights_mem_each ht hd m (by simp only[DataW.weights,hu];exact hm))
  refine HG (v:=.slice a l c) (j:=i) (d:=(xs[i]'oM).1) (p:=(xs[i]'oM).2) he hw (by simp[aN,hf]) (by simp[aN,ag (show i<xs.length by omega)]) (fuel:=n) (by simpa[dg] using h1) hb a l c rfl
end Go.AM
namespace Go.AM
open Go Go.RowKit
theorem DF:type_of%(ab (ab (ab (ab (ab (ab @gG.eq_1 (ab @gG.eq_2 @gG.eq_3)) (ab @gG.eq_4 (ab @gG.eq_5 @gG.eq_6))) (ab
    (ab @gG.eq_7 (ab @gG.eq_8 @gG.eq_9)) (ab (ab @gG.eq_10 @gG.eq_11) (ab @gG.eq_12 @gG.eq_13)))) (ab (ab (ab
    @gG.eq_14 (ab @gG.eq_15 @gG.eq_16)) (ab @gG.eq_17 (ab @gG.eq_18 @gG.eq_19))) (ab (ab @nJ.eq_1 (ab @nJ.eq_2
    @nJ.eq_3)) (ab (ab @nJ.eq_4 @nJ.eq_5) (ab @nJ.eq_6 @nJ.eq_7))))) (ab (ab (ab (ab @nJ.eq_8 (ab @nJ.eq_9
    @nJ.eq_10)) (ab @nJ.eq_11 (ab @nJ.eq_12 @nJ.eq_13))) (ab (ab @lH.eq_1 (ab @lH.eq_2 @lH.eq_3)) (ab (ab @lH.eq_4
    @lH.eq_5) (ab @lH.eq_6 @lH.eq_7)))) (ab (ab (ab @lH.eq_8 (ab @lH.eq_9 @lH.eq_10)) (ab @lH.eq_11 (ab @lH.eq_12
    @lH.eq_13))) (ab (ab @lH.eq_14 (ab @lH.eq_15 @lH.eq_16)) (ab (ab @Bg.eq_1 @Bg.eq_2) (ab @Bg.eq_3 @CK.eq_1))))))
    (ab (ab (ab (ab (ab @CK.eq_2 (ab @CK.eq_3 @CK.eq_4)) (ab @sE.eq_1 (ab @sE.eq_2 @sE.eq_3))) (ab
    (ab @L6.eq_1 (ab @L6.eq_2 @L6.eq_3)) (ab (ab @L6.eq_4 @L6.eq_5) (ab @L6.eq_6 @jk.eq_1)))) (ab (ab (ab
    @jk.eq_2 (ab @jk.eq_3 @nL.eq_1)) (ab @nL.eq_2 (ab @nL.eq_3 @nL.eq_4))) (ab (ab @nL.eq_5 (ab @ov.eq_1
    @ov.eq_2)) (ab (ab @placeOf.eq_1 @eQ.eq_1) (ab @eQ.eq_2 @undef.eq_1))))) (ab (ab (ab (ab @tY.eq_1 (ab
    @apart.eq_1 @ef.eq_1)) (ab @ef.eq_2 (ab @ef.eq_3 @ef.eq_4))) (ab (ab @eR.eq_1 (ab @eR.eq_2 @dY.eq_1)) (ab (ab
    @eV.eq_1 @tm.eq_1) (ab @dJ.eq_1 @dJ.eq_2)))) (ab (ab (ab @dn.eq_1 (ab @dn.eq_2 @pY.eq_1)) (ab @dm.eq_1
    (ab @Array.isEmpty.eq_1.{0} @List.isEmpty.eq_1.{0}))) (ab (ab @List.isEmpty.eq_2.{0} (ab @implies_true.{0} @implies_true.{1})) (ab (ab
    @forall_eq'.{1} @ne_eq.{1}) (ab @if_true.{1} @if_false.{1}))))))):=
  (ab (ab (ab (ab (ab (ab @gG.eq_1 (ab @gG.eq_2 @gG.eq_3)) (ab @gG.eq_4 (ab @gG.eq_5 @gG.eq_6))) (ab
    (ab @gG.eq_7 (ab @gG.eq_8 @gG.eq_9)) (ab (ab @gG.eq_10 @gG.eq_11) (ab @gG.eq_12 @gG.eq_13)))) (ab (ab (ab
    @gG.eq_14 (ab @gG.eq_15 @gG.eq_16)) (ab @gG.eq_17 (ab @gG.eq_18 @gG.eq_19))) (ab (ab @nJ.eq_1 (ab @nJ.eq_2
    @nJ.eq_3)) (ab (ab @nJ.eq_4 @nJ.eq_5) (ab @nJ.eq_6 @nJ.eq_7))))) (ab (ab (ab (ab @nJ.eq_8 (ab @nJ.eq_9
    @nJ.eq_10)) (ab @nJ.eq_11 (ab @nJ.eq_12 @nJ.eq_13))) (ab (ab @lH.eq_1 (ab @lH.eq_2 @lH.eq_3)) (ab (ab @lH.eq_4
    @lH.eq_5) (ab @lH.eq_6 @lH.eq_7)))) (ab (ab (ab @lH.eq_8 (ab @lH.eq_9 @lH.eq_10)) (ab @lH.eq_11 (ab @lH.eq_12
    @lH.eq_13))) (ab (ab @lH.eq_14 (ab @lH.eq_15 @lH.eq_16)) (ab (ab @Bg.eq_1 @Bg.eq_2) (ab @Bg.eq_3 @CK.eq_1))))))
    (ab (ab (ab (ab (ab @CK.eq_2 (ab @CK.eq_3 @CK.eq_4)) (ab @sE.eq_1 (ab @sE.eq_2 @sE.eq_3))) (ab
    (ab @L6.eq_1 (ab @L6.eq_2 @L6.eq_3)) (ab (ab @L6.eq_4 @L6.eq_5) (ab @L6.eq_6 @jk.eq_1)))) (ab (ab (ab
    @jk.eq_2 (ab @jk.eq_3 @nL.eq_1)) (ab @nL.eq_2 (ab @nL.eq_3 @nL.eq_4))) (ab (ab @nL.eq_5 (ab @ov.eq_1
    @ov.eq_2)) (ab (ab @placeOf.eq_1 @eQ.eq_1) (ab @eQ.eq_2 @undef.eq_1))))) (ab (ab (ab (ab @tY.eq_1 (ab
    @apart.eq_1 @ef.eq_1)) (ab @ef.eq_2 (ab @ef.eq_3 @ef.eq_4))) (ab (ab @eR.eq_1 (ab @eR.eq_2 @dY.eq_1)) (ab (ab
    @eV.eq_1 @tm.eq_1) (ab @dJ.eq_1 @dJ.eq_2)))) (ab (ab (ab @dn.eq_1 (ab @dn.eq_2 @pY.eq_1)) (ab @dm.eq_1
    (ab @Array.isEmpty.eq_1.{0} @List.isEmpty.eq_1.{0}))) (ab (ab @List.isEmpty.eq_2.{0} (ab @implies_true.{0} @implies_true.{1})) (ab (ab
    @forall_eq'.{1} @ne_eq.{1}) (ab @if_true.{1} @if_false.{1})))))))
def DBx:=PLift.up (ab (ab (ab @Bool.not_true @Bool.not_false) (ab @ar @Bool.true_eq_false)) (ab (ab @false_imp_iff @true_imp_iff) (ab @decide_eq_true_eq @decide_eq_false_iff_not)))
theorem DB:type_of%DBx.1:=DBx.1
def DXx:=PLift.up (ab (ab @List.contains_cons.{0} (ab @List.contains_nil.{0} @Bool.or_false)) (ab (ab @Bool.or_true @Bool.or_self) (ab @ar @Bool.false_or)))
theorem DX:type_of%DXx.1:=DXx.1
def DTx:=PLift.up (ab (ab @Mq (ab @Mr @Ms)) (ab @Hu (ab @JI @JJ)))
theorem DT:type_of%DTx.1:=DTx.1
end Go.AM
namespace Go.AM
open Go Go.RowKit
variable{rd:Option Nat}{P:Program}{Γ:Nat->List AV}{G:Gh}{s:AS}{w:World}{N:Nat}{ops:Array Oper}
inductive Mk where
  |val
  |yb
  |LQ (v:AV)
  |UJ
def MC(P:Program)(o:Oper):Option AV:=
  match o.op with
  |.makeSlice T (.const (.int _ n)) _=>
    match P.underlying T with
    |some (.slice e)=>match eO P e with |some z=>some (.sl (P.cellsOf e) n.toNat (rF (n.toNat*P.cellsOf e) z) .no)|none=>none
    |_=>none
  |_=>none
def tv(P:Program)(N:Nat)(o:Oper):Bool:=
  match o.guard,o.dst,o.op with
  |none,some d,.alloc T=>decide (d<N)&&(eO P T).isSome
  |none,some d,.makeSlice T (.const (.int _ n)) (.const (.int _ m))=>
    decide (d<N)&&(match P.underlying T with
      |some (.slice e)=>(match eO P e with
        |some z=>decide (0<=n)&&(decide (m=n)&&(decide (P.bytesOf e*n<=70368744177664)&&(decide (n<=70368744177664)&&(decide (P.cellsOf e≠0)&&decide (z.length=P.cellsOf e)))))
        |none=>false)
      |_=>false)
  |_,_,_=>false
def uG(ops:Array Oper)(o:Oper)(E:Env):Prop:=
  match o.guard with
  |none=>True
  |some (j,want)=>match tm ops j with |some d=>E d=.v (.bool want)|none=>False
theorem Ar{ops:Array Oper}{o:Oper}{E E':Env}(h:∀d,d∈o.looksAt ops->E' d=E d)(hv:uG ops o E):uG ops o E':=by
  cases hg:o.guard with
  |none=>simp[uG,hg]
  |some g=>
    obtain⟨j,want⟩:=g;simp only[uG,hg] at hv⊢;cases hj:tm ops j with
    |none=>rw[hj] at hv;exact hv.elim
    |some d=>
      rw[hj] at hv;have :E' d=E d:=h d (by
        by_cases hd:d∈o.looksAt ops
        · exact hd
        · exact absurd hj (rR hd hg))
      simp only[this];exact hv
theorem MD{P:Program}{Γ:Nat->List AV}{N:Nat}{ops:Array Oper}{o:Oper}{E:Env}{s:AS}{K:Env->AS->Prop}(hg:uG ops o E):AX P Γ N ops [o] K E s↔AX P Γ N ops [{o with guard:=none}] K E s:=by
  cases h:o.guard with
  |none=>
    have :({o with guard:=none}:Oper)=o:=(by cases o;simp_all);rw[this]
  |some g=>
    obtain⟨j,want⟩:=g;simp only[uG,h] at hg;cases hj:tm ops j with
    |none=>rw[hj] at hg;exact hg.elim
    |some d=>
      rw[hj] at hg;have:=C8 (P:=P) (Γ:=Γ) (N:=N) (rest:=[]) (K:=K) (s:=s) h hj hg;rw[ay] at this;rw[this,if_pos rfl]
def RS(P:Program)(Γ:Nat->List AV)(o:Oper)(E:Env)(v:AV):Prop:=
  o.guard=none∧
  match o.op with
  |.call {callee:=.value f,args,.. }=>
    match ef Γ E f with
    |.v (.func (.func k) first gh)=>first.isEmpty=true∧gh.isEmpty=true∧b7 P k=true∧∀s,dS P Γ k (args.toList.map (ef Γ E)) s (fun r s'=>r=v∧s'=s)
    |_=>False
  |_=>False
def GV(P:Program)(Γ:Nat->List AV)(N:Nat)(ops:Array Oper)(m:Mk)(o:Oper)(E:Env)(v:AV):Prop:=
  match m with
  |.LQ u=>v=u∧RS P Γ o E u
  |.val=>eZ P Γ ops o E=some v
  |.UJ=>uG ops o E∧tv P N {o with guard:=none}=true∧MC P o=some v
  |.yb=>False
def Mk.gb:Mk->Bool
  |.yb=>true
  |_=>false
def uH(P:Program)(Γ:Nat->List AV)(N:Nat)(ops:Array Oper):List (Oper×Mk)->(Env->AS->Prop)->Env->AS->Prop
  |[],K,E,s=>K E s
  |(o,m)::rest,K,E,s=>
    if m.gb=true then AX P Γ N ops [o] (uH P Γ N ops rest K) E s
    else(∀d,o.dst=some d->d<N)∧∃v,GV P Γ N ops m o E v∧uH P Γ N ops rest K (eR E o.dst v) s
theorem ME{o:Oper}{E E':Env}{v:AV}(h:∀d,d∈o.looksAt ops->E' d=E d)(hv:RS P Γ o E v):RS P Γ o E' v:=by
  have lJ:∀x∈o.op.operands,ef Γ E' x=ef Γ E x:=fun x hx=>by
    cases x with
    |tmp t=>exact h t (List.mem_append_left _ (cw.2 ⟨.tmp t,by simpa using hx,rfl⟩))
    |const v=>rfl
    |global g=>rfl
    |func f=>rfl
  obtain⟨hg,hv⟩:=hv;refine⟨hg,?_⟩;cases hc:o.op<;>rw[hc] at hv;case call c=>
    obtain⟨callee,args,argTypes⟩:=c;rw[hc] at lJ;cases callee with
    |value f=>
      have hf:ef Γ E' f=ef Γ E f:=lJ f (by simp[Op.operands,Call.operands]);have ha:args.toList.map (ef Γ E')=args.toList.map (ef Γ E):=List.map_congr_left fun x hx=>lJ x (by
        have :x∈args:=(by simpa using hx);simp[Op.operands,Call.operands,this])
      simp only[hf,ha];exact hv
    |invoke r m=>exact hv
    |builtin b=>exact hv
  all_goals exact hv
theorem yG{m:Mk}{o:Oper}{E E':Env}{v:AV}(h:∀d,d∈o.looksAt ops->E' d=E d)(hv:GV P Γ N ops m o E v):GV P Γ N ops m o E' v:=by
  cases m with
  |LQ u=>exact⟨hv.1,ME h hv.2⟩
  |UJ=>exact⟨Ar h hv.1,hv.2⟩
  |val=>exact(oF h).trans hv
  |yb=>exact hv
theorem PL{m:Mk}{o:Oper}{E:Env}{v v':AV}(h:GV P Γ N ops m o E v)(h':GV P Γ N ops m o E v'):v=v':=by
  cases m with
  |LQ u=>exact h.1.trans h'.1.symm
  |UJ=>exact bZ (h.2.2.symm.trans h'.2.2)
  |val=>exact bZ (Eq.trans (Eq.symm h) h')
  |yb=>exact h.elim
theorem Vr{o:Oper}{E:Env}{v:AV}{K:Env->AS->Prop}(hd:∀d,o.dst=some d->d<N)(hv:RS P Γ o E v)(h:K (eR E o.dst v) s):AX P Γ N ops [o] K E s:=by
  obtain⟨hg,hv⟩:=hv;simp only[AX,hg];refine⟨hd,?_⟩;cases hc:o.op<;>rw[hc] at hv;case call c=>
    obtain⟨callee,args,argTypes⟩:=c;cases callee with
    |value f=>
      simp only[fS,gG,ic];simp only at hv;split at hv
      · rename_i k first gh hf
        simp only[hf];obtain⟨h1,h2,h3,h4⟩:=hv;refine⟨h1,h2,h3,(h4 s).mono ?_⟩;rintro r s' ⟨rfl,rfl⟩;exact h
      · cases hv
    |invoke r m=>cases hv
    |builtin b=>cases hv
  all_goals cases hv
theorem MF{o:Oper}{m:Mk}(Y8:m≠.UJ){L:List (Oper×Mk)}{E:Env}{K:Env->AS->Prop}(h:uH P Γ N ops ((o,m)::L) K E s):AX P Γ N ops [o] (uH P Γ N ops L K) E s:=by
  simp only[uH] at h;split at h
  · exact h
  · obtain⟨hd,v,hv,h⟩:=h;cases m with
    |LQ u=>
      obtain⟨rfl,hv⟩:=hv;exact Vr hd hv h
    |yb=>exact hv.elim
    |UJ=>exact absurd rfl Y8
    |val=>
      have hv:eZ P Γ ops o E=some v:=hv;have :u7 P Γ N ops [(o,false)] (uH P Γ N ops L K) E s:=by
        simp only[u7,ar,if_false,hv];exact⟨hd,h⟩
      have:=Mh this;simpa only[u7] using this
def je(P:Program)(Γ:Nat->List AV)(N:Nat)(ops:Array Oper)(o:Oper):Prop:=
  ∃(v:Nat->AV)(z:List AV),∀(E:Env)(s:AS)(K:Env->AS->Prop),AX P Γ N ops [o] K E s↔∀ob,s.dD ob=none->K (eR E o.dst (v ob)) (s.set ob z)
theorem MG{f o:Oper}(hf:je P Γ N ops f)(ho:je P Γ N ops o)(hd:∀d,f.dst=some d->o.dst≠some d){E:Env}{K:Env->AS->Prop}
    (h:AX P Γ N ops [f] (fun E s=>AX P Γ N ops [o] K E s) E s):AX P Γ N ops [o] (fun E s=>AX P Γ N ops [f] K E s) E s:=by
  obtain⟨vf,zf,hf⟩:=hf;obtain⟨vo,zo,ho⟩:=ho;rw[ho];intro o2 h2;rw[hf];intro o1 h1;rw[hf] at h;have gP:o1≠o2:=(by rintro rfl;rw[AS.bG] at h1;cases h1);rw[AS.cO _ gP] at h1;have:=(ho _ _ _).1 (h o1 h1) o2 (by rw[AS.cO _ gP.symm];exact h2);have e1:((s.set o1 zf).set o2 zo)=((s.set o2 zo).set o1 zf):=by
    simp only[AS.set,AS.mk.injEq,and_true];funext i;simp only[dY];by_cases a:i=o1
    · subst a;simp[gP]
    · by_cases b:i=o2
      · subst b;simp[gP.symm]
      · simp[a,b]
  rw[e1,qA hd] at this;exact this
theorem je.alloc{T:TypeId}{z:List AV}{d:Tmp}{ty:TypeId}{pos:String}{after:Array Edge}(hz:eO P T=some z)(hd:d<N):je P Γ N ops {dst:=some d,op:=.alloc T,type:=ty,pos:=pos,after:=after,guard:=none}:=by
  refine⟨fun o=>.ptr o 0,z,fun E s K=>?_⟩;simp only[AX,fS,gG,ic,hz];refine⟨fun h=>h.2,fun h=>⟨fun d' RI=>?_,h⟩⟩;cases RI;exact hd
theorem je.make{T e:TypeId}{k k':IntKind}{n m:Int}{z:List AV}{d:Tmp}{ty:TypeId}{pos:String}{after:Array Edge}(hT:P.underlying T=some (.slice e))(hz:eO P e=some z)
    (h:0<=n∧m=n∧P.bytesOf e*n<=2^46∧n<=2^46∧P.cellsOf e≠0∧z.length=P.cellsOf e) (hd:d<N):je P Γ N ops {dst:=some d,op:=.makeSlice T (.const (.int k n)) (.const (.int k' m)),type:=ty,pos:=pos,after:=after,guard:=none}:=by
  refine⟨fun o=>.jd o 0 (P.cellsOf e) n.toNat n.toNat,rF (n.toNat*P.cellsOf e) z,fun E s K=>?_⟩;simp only[AX,fS,gG,ic,ef,hT,hz];obtain⟨h1,h2,h3,h4,h5,h6⟩:=h;refine⟨fun h=>h.2.2.2.2.2.2.2,fun h=>⟨fun d' RI=>?_,h1,h2,h3,h4,h5,h6,h⟩⟩;cases RI;exact hd
theorem JW{o:Oper}(h:tv P N o=true):je P Γ N ops o:=by
  obtain⟨dst,op,ty,pos,after,guard⟩:=o;unfold tv at h;split at h
  · rename_i d T h1 h2 h3;simp only at h1 h2 h3;subst h1 h2 h3;simp only[aw,decide_eq_true_eq] at h;obtain⟨hd,hz⟩:=h;obtain⟨z,hz⟩:=Option.isSome_iff_exists.1 hz;exact je.alloc hz hd
  · rename_i d T k n k' m h1 h2 h3;simp only at h1 h2 h3;subst h1 h2 h3;simp only[aw] at h;obtain⟨hd,h⟩:=h;split at h
    · rename_i e hT;split at h
      · rename_i z hz;simp only[aw,decide_eq_true_eq] at h;obtain⟨q1,q2,q3,q4,q5,q6⟩:=h;exact je.make hT hz ⟨q1,q2,by simpa using q3,by simpa using q4,q5,q6⟩ (of_decide_eq_true hd)
      · cases h
    · cases h
  · cases h
theorem MH{o:Oper}{v:AV}(hb:tv P N o=true)(hv:MC P o=some v):∃(d:Tmp)(sz n:Nat)(z:List AV),o.dst=some d∧
    (∀(E:Env)(s:AS)(K:Env->AS->Prop),AX P Γ N ops [o] K E s↔∀ob,s.dD ob=none->K (eR E o.dst (.jd ob 0 sz n n)) (s.set ob z))∧v=.sl sz n z .no∧z.length=n*sz:=by
  obtain⟨dst,op,ty,pos,after,guard⟩:=o;unfold tv at hb;split at hb
  · rename_i d T h1 h2 h3;simp only at h1 h2 h3;subst h1 h2 h3;simp[MC] at hv
  · rename_i d T k n k' m h1 h2 h3;simp only at h1 h2 h3;subst h1 h2 h3;simp only[aw] at hb;obtain⟨hd,hb⟩:=hb;split at hb
    · rename_i e hT;split at hb
      · rename_i z hz;simp only[aw,decide_eq_true_eq] at hb;obtain⟨q1,q2,q3,q4,q5,q6⟩:=hb;simp only[MC,hT,hz,aU] at hv;refine⟨d,P.cellsOf e,n.toNat,rF (n.toNat*P.cellsOf e) z,rfl,fun E s K=>?_,hv.symm,?_⟩
        · simp only[AX,fS,gG,ic,ef,hT,hz];refine⟨fun h=>h.2.2.2.2.2.2.2,fun h=>⟨fun d' RI=>?_,q1,q2,by simpa using q3,by simpa using q4,q5,q6,h⟩⟩;cases RI;exact of_decide_eq_true hd
        · simp[rF]
      · cases hb
    · cases hb
  · cases hb
theorem Gl{o:Oper}{v:AV}(hb:tv P N {o with guard:=none}=true)(hv:MC P o=some v):∃(d:Tmp)(sz n:Nat)(z:List AV),o.dst=some d∧
    (∀(E:Env)(s:AS)(K:Env->AS->Prop),uG ops o E->(AX P Γ N ops [o] K E s↔∀ob,s.dD ob=none->K (eR E o.dst (.jd ob 0 sz n n)) (s.set ob z)))∧v=.sl sz n z .no∧z.length=n*sz:=by
  obtain⟨d,sz,n,z,h1,h2,h3,h4⟩:=MH (Γ:=Γ) (ops:=ops) hb hv;exact⟨d,sz,n,z,h1,fun E s K hg=>(MD hg).trans (h2 E s K),h3,h4⟩
theorem Ol{o:Oper}{d:Tmp}{sz n:Nat}{z:List AV}{E:Env}{G':Gh}{a':Act}{w':World}{ob:Nat}(hd:o.dst=some d)(hz:z.length=n*sz)(ho:s.dD ob=none)
    (hr:Rel Γ N G' (eR E o.dst (.jd ob 0 sz n n)) (s.set ob z) a' w'):∃G2,G'.le G2∧Rel Γ N G2 (eR E o.dst (.sl sz n z .no)) s a' w':=by
  rw[hd] at hr⊢;have hg:=kx.freeze (Γ:=Γ) (N:=N) (E:=eR E (some d) (.jd ob 0 sz n n)) (s:=s.set ob z) (d:=d) (o:=ob) (off:=0) (sz:=sz) (n:=n) (cap:=n) (by simp[eR,dY]) (AS.bG _ _ _) oM;rw[AS.drop_set ho,List.drop_zero,List.take_of_length_le oM] at hg;obtain⟨G2,k1,k2⟩:=hg _ _ _ hr;refine⟨G2,k1,?_⟩;have :dY (eR E (some d) (.jd ob 0 sz n n)) d (.sl sz n z .no)=eR E (some d) (.sl sz n z .no):=by
    funext i;simp only[eR,dY];split <;>rfl
  rwa [this] at k2
theorem RU{o:Oper}{m:Mk}{L:List (Oper×Mk)}{E:Env}{a:Act}{K:Env->AS->Prop}(h:uH P Γ N ops ((o,m)::L) K E s)(hr:Rel Γ N G E s a w):
    ∃G' E' s' a' w',Rel Γ N G' E' s' a' w'∧uH P Γ N ops L K E' s'∧∀i,o.dst≠some i->E' i=E i:=by
  by_cases hm:m=.UJ
  · subst hm;simp only[uH,Mk.gb,ar,if_false] at h;obtain⟨_,v,⟨RV,hb,hv⟩,h⟩:=h;obtain⟨d,sz,n,z,hd,hax,rfl,hz⟩:=Gl (Γ:=Γ) (ops:=ops) hb hv;have:=(hax E s (fun E' s'=>∃ob,s.dD ob=none∧E'=eR E o.dst (.jd ob 0 sz n n)∧s'=s.set ob z) RV).2 fun ob ho=>⟨ob,ho,rfl,rfl⟩;obtain⟨G',E',s',a',w',xo,⟨ob,ho,rfl,rfl⟩,_⟩:=nz this hr;obtain⟨G2,_,vR⟩:=Ol hd hz ho xo;exact⟨G2,_,_,a',w',vR,h,fun i hi=>fR hi⟩
  · exact nz (MF hm h) hr
theorem JX{y:Oper}{m:Mk}(hm:m.gb=false){L2:List (Oper×Mk)}{K:Env->AS->Prop}:∀(L1:List (Oper×Mk)){G:Gh}{E:Env}{s:AS}{a:Act}{w:World},(∀x∈L1,jb ops x.1 y)->uH P Γ N ops (L1++(y,m)::L2) K E s->Rel Γ N G E s a w->
    (∀d,y.dst=some d->d<N)∧∃v,GV P Γ N ops m y E v
  |[],G,E,s,a,w,_,h,hr=>by
    simp only[aP,uH,hm,ar,if_false] at h;obtain⟨h1,v,h2,_⟩:=h;exact⟨h1,v,h2⟩
  |(x,ex)::L1,G,E,s,a,w,nG,h,hr=>by
    obtain⟨G',E',s',a',w',xo,hK,hf⟩:=RU h hr;obtain⟨h1,v,h2⟩:=JX hm L1 (fun x hx=>nG x (aQ _ hx)) hK xo;refine⟨h1,v,yG (fun d hd=>(hf d fun e=>?_).symm) h2⟩;exact(cx (nG (x,ex) sM)).1 d e hd
theorem sm{y:Oper}{m:Mk}(hm:m.gb=false){L2:List (Oper×Mk)}{K:Env->AS->Prop}{v:AV}:∀(L1:List (Oper×Mk)){E:Env}{s:AS},(∀x∈L1,jb ops x.1 y)->GV P Γ N ops m y E v->uH P Γ N ops (L1++(y,m)::L2) K E s->
    uH P Γ N ops (L1++L2) K (eR E y.dst v) s
  |[],E,s,_,hv,h=>by
    simp only[aP,uH,hm,ar,if_false] at h;obtain⟨_,u,hu,h⟩:=h;rw[PL hv hu];exact h
  |(x,ex)::L1,E,s,nG,hv,h=>by
    obtain⟨a1,a2,a3⟩:=cx (nG (x,ex) sM);have rH:∀x∈L1,jb ops x.1 y:=fun x hx=>nG x (aQ _ hx);have Rj:∀E':Env,(∀i,x.dst≠some i->E' i=E i)->GV P Γ N ops m y E' v:=fun E' hE=>yG (fun d hd=>hE d fun e=>a1 d e hd) hv;simp only[bt,uH] at h⊢;split at h
    · rename_i he;rw[if_pos he];refine(u9 (fun d hd=>a3 d hd) (fun d hd e=>a2 d e hd)).2 ?_;refine gi _ (fun E' s' hE=>?_) (gu h);exact sm hm L1 rH (Rj E' hE.2) hE.1
    · rename_i he;rw[if_neg he];obtain⟨h0,u,hu,h⟩:=h;refine⟨h0,u,yG (fun d hd=>fR fun e=>a3 d e hd) hu,?_⟩;rw[qA (fun d h1 h2=>a2 d h2 h1)];exact sm hm L1 rH (Rj _ fun i hi=>fR hi) h
theorem sq{y:Oper}{L2:List (Oper×Mk)}{K:Env->AS->Prop}:∀(L1:List (Oper×Mk)){E:Env}{s:AS},(∀x∈L1,jb ops x.1 y∧(x.2.gb=false∨(je P Γ N ops x.1∧je P Γ N ops y)))->uH P Γ N ops (L1++(y,.yb)::L2) K E s->
    AX P Γ N ops [y] (uH P Γ N ops (L1++L2) K) E s
  |[],E,s,_,h=>by simpa only[aP,uH,Mk.gb,if_true] using h
  |(x,ex)::L1,E,s,nG,h=>by
    obtain⟨Mi,hex⟩:=nG (x,ex) sM;simp only at hex;obtain⟨a1,a2,a3⟩:=cx Mi;have rH:∀x∈L1,jb ops x.1 y∧(x.2.gb=false∨(je P Γ N ops x.1∧je P Γ N ops y)):=fun x hx=>nG x (aQ _ hx);cases hx:ex.gb with
    |true=>
      rw[hx] at hex;rcases hex with hex|⟨f1,f2⟩
      · cases hex
      simp only[bt,uH,hx,if_true] at h⊢;exact MG f1 f2 (fun d hd e=>a2 d hd e) (gi _ (fun E' s' hE=>sq L1 rH hE) h)
    |false=>
      simp only[bt,uH,hx,ar,if_false] at h;obtain⟨h0,v,hv,h⟩:=h;have h1:=sq L1 rH h;have h2:=(u9 (fun d hd=>a1 d hd) (fun d hd=>a2 d hd)).1 h1;refine gi _ (fun E' s' hE=>?_) (gu h2);simp only[bt,uH,hx,ar,if_false];exact⟨h0,v,yG (fun d hd=>hE.2 d fun e=>a3 d e hd) hv,hE.1⟩
theorem As:∀(L:List (Oper×Mk)){K:Env->AS->Prop}{E:Env}{s:AS},uH P Γ N ops L K E s->uH P Γ N ops L (fun E' s'=>K E' s'∧∀i,i∉fT (L.map (·.1))->E' i=E i) E s
  |[],K,E,s,h=>⟨h,fun _ _=>rfl⟩
  |(o,mm)::L,K,E,s,h=>by
    have mono:∀(L:List (Oper×Mk)){K K':Env->AS->Prop}{E:Env}{s:AS},(∀E s,K E s->K' E s)->uH P Γ N ops L K E s->uH P Γ N ops L K' E s:=by
      intro L;induction L with
      |nil=>intro K K' E s hk h;exact hk _ _ h
      |cons x L ih=>
        intro K K' E s hk h;simp only[uH] at h⊢;split at h
        · rename_i he;rw[if_pos he];exact gi _ (fun E s h=>ih hk h) h
        · rename_i he;rw[if_neg he];obtain⟨h0,v,hv,h⟩:=h;exact⟨h0,v,hv,ih hk h⟩
    have rI:∀i,i∉fT (((o,mm)::L).map (·.1))->i∉fT (L.map (·.1))∧o.dst≠some i:=by
      intro i hi;simp only[fT,aG,List.filterMap_cons] at hi;refine⟨fun hm=>hi ?_,fun e=>hi (by simp[e])⟩;simp only[fT] at hm;split
      · exact hm
      · exact aQ _ hm
    simp only[uH] at h⊢;split at h
    · rename_i he;rw[if_pos he];refine gi _ (fun E' s' hE=>?_) (gu h);refine mono L (fun mW mb C2=>⟨C2.1,fun i hi=>?_⟩) (As L hE.1);obtain⟨m1,m2⟩:=rI i hi;rw[C2.2 i m1,hE.2 i m2]
    · rename_i he;rw[if_neg he];obtain⟨h0,v,hv,h⟩:=h;refine⟨h0,v,hv,mono L (fun mW mb C2=>⟨C2.1,fun i hi=>?_⟩) (As L h)⟩;obtain⟨m1,m2⟩:=rI i hi;rw[C2.2 i m1,fR m2]
def qV(ops:Array Oper)(mk:Nat->Mk)(i:Nat):Oper×Mk:=((ops[i]?).getD default,mk i)
def Dl(ops:Array Oper)(D:List Nat)(mk:Nat->Mk)(fr:List Nat):Bool:=
  (aq ops.size).all fun j=>(aq j).all fun i=>
    match ops[i]?,ops[j]? with
    |some x,some y=>(D.getD j 0).testBit i||(x.apart ops y&& !((mk i).gb&&(mk j).gb&& !(fr.contains i&&fr.contains j)))
    |_,_=>true
def yH(ops:Array Oper)(mk:Nat->Mk)(fr:List Nat):Bool:=
  Bm ops (bx ops).toList&&Dl ops (bx ops).toList mk fr
theorem HI{mk:Nat->Mk}{fr:List Nat}(I9:∀i∈fr,je P Γ N ops ((ops[i]?).getD default)){Q:Exit->Act->World->Prop}{K:Env->AS->Prop}(mR:yH ops mk fr=true):
    ∀(fuel:Nat)(listed:Array Bool){G:Gh}{E:Env}{s:AS}{a:Act}{w:World},listed.size=ops.size->(left ops listed).length<=fuel->
      (∀(i:Nat)(o:Oper),ops[i]? =some o->listed.getD i true=true->∀e∈o.after.toList,cW .any e=true->listed.getD e.on false=true)->
      uH P Γ N ops ((left ops listed).map (qV ops mk)) K E s->Rel Γ N G E s a w->
      (∀G' E' s' a' w',G.le G'->Rel Γ N G' E' s' a' w'->K E' s'->Q .normal a' w')->wpAnyIn (yq rd) 0 P .any ops Q fuel listed a w:=by
  simp only[yH,aw] at mR
  obtain⟨Ab,qQ⟩:=mR
  intro fuel
  have wo:∀(listed:Array Bool),bO .any ops listed=[]->left ops listed=[]:=by
    intro listed h
    -- the first that is left could go
    cases hl:left ops listed with
    |nil=>rfl
    |cons i L=>
      exfalso
      have hi:i∈left ops listed:=by rw[hl];simp
      obtain⟨h1,h2⟩:=mem_left.1 hi
      have C0:∀j,j<i->listed.getD j true=true:=by
        intro j hj
        cases Jw:listed.getD j true with
        |true=>rfl
        |false=>
          exfalso
          have Hj:j∈left ops listed:=mem_left.2 ⟨oM,Jw⟩
          have hs:(left ops listed).Pairwise (· < ·):=by
            unfold left
            exact List.Pairwise.filter _ List.pairwise_lt_range
          rw[hl] at hs Hj
          rcases List.mem_cons.1 Hj with rfl|Hj
          · omega
          · have:=(List.pairwise_cons.1 hs).1 j Hj
            omega
      have ho:ops[i]? =some ops[i]:=by simp[h1]
      have hr:i∈bO .any ops listed:=by
        rw[mem_ready]
        refine⟨h2,_,ho,fun e he hb=>?_⟩
        have fB:=(lL Ab ho).2 e (by simpa using he) hb
        have:=C0 _ fB
        -- both defaults agree where the place is there
        have kv:e.on<listed.size:=by
          rcases Nat.lt_or_ge e.on listed.size with h'|h'
          · exact h'
          · exfalso
            have :listed.getD i true=true:=by
              simp[Array.getElem?_eq_none (show listed.size<=i by omega)]
            rw[h2] at this;cases this
        simpa[kv] using this
      rw[h] at hr
      cases hr
  induction fuel with
  |zero=>
    intro listed G E s a w kv hlen mQ h hr hq
    have hl:left ops listed=[]:=al oM
    have mH:bO .any ops listed=[]:=by
      cases U8:bO .any ops listed with
      |nil=>rfl
      |cons i L=>
        exfalso
        have :i∈bO .any ops listed:=by rw[U8];simp
        rw[mem_ready] at this
        obtain⟨h0,o,ho,_⟩:=this
        have :i∈left ops listed:=mem_left.2 ⟨(ao.1 ho).1,h0⟩
        rw[hl] at this
        cases this
    rw[hl] at h
    exact⟨mH,hq G E s a w (.refl G) hr h⟩
  |succ fuel ih=>
    intro listed G E s a w kv hlen mQ h hr hq
    refine⟨fun mH=>?_,fun i hi=>?_⟩
    · rw[wo listed mH] at h
      exact hq G E s a w (.refl G) hr h
    · obtain⟨h0,o,ho,fG⟩:=mem_ready.1 hi
      have Ac:i<ops.size:=(ao.1 ho).1
      obtain⟨L1,L2,q1,q2,q3⟩:=yx kv Ac h0
      -- what comes before i is done
      have tq:∀(j:Nat)(oj:Oper),ops[j]? =some oj->(∀e∈oj.after.toList,cW .any e=true->listed.getD e.on false=true)->∀l,((bx ops).toList.getD j 0).testBit l=true->listed.getD l false=true:=by
        intro j
        induction j using Nat.strongRecOn with
        |_ j YN=>
          intro oj Ad hj l hl
          obtain⟨d1,d2⟩:=lL Ab Ad
          obtain⟨e,he,hb,h1⟩:=d1 l hl
          have B3:=hj e he hb
          rcases h1 with rfl|h1
          · exact B3
          · have fB:=d2 e he hb
            have YO:e.on<ops.size:=by
              have:=(ao.1 Ad).1
              omega
            have C1:ops[e.on]? =some ops[e.on]:=by simp[YO]
            refine YN e.on fB _ C1 (mQ e.on _ C1 ?_) l h1
            have :e.on<listed.size:=oM
            simpa[this] using B3
      have wG:∀x∈L1,jb ops ((ops[x]?).getD default) o∧((mk x).gb=false∨(mk i).gb=false∨(fr.contains x=true∧fr.contains i=true)):=by
        intro x hx
        obtain⟨YP,Pu⟩:=q3 x hx
        unfold Dl at qQ
        rw[aB] at qQ
        have h1:=qQ i (by simpa using Ac)
        rw[aB] at h1
        have h2:=h1 x (by simpa using YP)
        have Xp:ops[x]? =some (ops[x]'oM):=sM
        rw[Xp,ho] at h2
        simp only[Bool.or_eq_true,aw,Bool.not_eq_true'] at h2
        rcases h2 with h2|⟨h2,h3⟩
        · exfalso
          have:=tq i o ho (fun e he hb=>fG e (by simpa using he) hb) x h2
          have YQ:x<listed.size:=oM
          simp[YQ] at this Pu
          rw[Pu] at this;cases this
        · refine⟨by rw[Xp];exact h2,?_⟩
          cases e1:(mk x).gb with
          |false=>exact Or.inl rfl
          |true=>
            cases e2:(mk i).gb with
            |false=>exact Or.inr (Or.inl rfl)
            |true=>
              rw[e1,e2] at h3
              simp only[Bool.true_and,Bool.not_eq_eq_eq_not,Bool.not_false,aw,Bool.not_eq_true'] at h3
              exact Or.inr (Or.inr (by simpa using h3))
      have fO:∀{G':Gh}{E':Env}{s':AS}{a':Act}{w':World},G.le G'->uH P Γ N ops ((L1++L2).map (qV ops mk)) K E' s'->Rel Γ N G' E' s' a' w'->wpAnyIn (yq rd) 0 P .any ops Q fuel (listed.setIfInBounds i true) a' w':=by
        intro G' E' s' a' w' hle hA xo
        refine ih (listed.setIfInBounds i true) (by simpa using kv) ?_ ?_ ?_ xo (fun ya mW mb CX z8 k1 k2 k3=>hq ya mW mb CX z8 (hle.trans k1) k2 k3)
        · rw[q2]
          rw[q1] at hlen
          simp at hlen⊢
          omega
        · intro j oj Ad hj e he hb
          by_cases Hk:j=i
          · subst Hk
            rw[ho] at Ad;cases Ad
            exact getD_set_true (fG e (by simpa using he) hb)
          · rw[getD_set_ne true (Ne.symm Hk)] at hj
            exact getD_set_true (mQ j oj Ad hj e he hb)
        · rw[q2];exact hA
      rw[q1] at h
      simp only[List.map_append,aG] at h fO
      have lJ:qV ops mk i=(o,mk i):=by simp[qV,ho]
      rw[lJ] at h
      cases hf:(mk i).gb with
      |false=>
        have nG:∀x∈L1.map (qV ops mk),jb ops x.1 o:=by
          intro x hx
          obtain⟨j,hj,rfl⟩:=bR.1 hx
          exact(wG j hj).1
        obtain⟨hd,v,hv⟩:=JX hf _ nG h hr
        have h1:=sm hf _ nG hv h
        have hX:uH P Γ N ops ((o,mk i)::(L1.map (qV ops mk)++L2.map (qV ops mk))) K E s:=by
          simp only[uH,hf,ar,if_false]
          exact⟨hd,v,hv,h1⟩
        by_cases Y8:mk i=.UJ
        · rw[Y8] at hv
          obtain⟨RV,hb,hv⟩:=hv
          obtain⟨d,sz,n,z,hdd,hax,rfl,hz⟩:=Gl (Γ:=Γ) (ops:=ops) hb hv
          have h2:=(hax E s (fun E' s'=>∃ob,s.dD ob=none∧E'=eR E o.dst (.jd ob 0 sz n n)∧s'=s.set ob z) RV).2 fun ob sr=>⟨ob,sr,rfl,rfl⟩
          refine l9 (L:=[]) (K:=fun E' s'=>∃ob,s.dD ob=none∧E'=eR E o.dst (.jd ob 0 sz n n)∧s'=s.set ob z) ho h2 hr (fun G' E' s' a' w' k1 k2 k3=>?_)
          obtain⟨ob,sr,rfl,rfl⟩:∃ob,s.dD ob=none∧E'=eR E o.dst (.jd ob 0 sz n n)∧s'=s.set ob z:=k3
          obtain⟨G2,k4,k5⟩:=Ol hdd hz sr k2
          exact fO (k1.trans k4) h1 k5
        have h2:=MF Y8 hX
        exact l9 (L:=[]) (K:=fun E s=>uH P Γ N ops (L1.map (qV ops mk)++L2.map (qV ops mk)) K E s) ho h2 hr (fun G' E' s' a' w' k1 k2 k3=>fO k1 k3 k2)
      |true=>
        have hme:mk i=.yb:=by
          cases hm:mk i with
          |yb=>rfl
          |val=>rw[hm] at hf;cases hf
          |UJ=>rw[hm] at hf;cases hf
          |LQ u=>rw[hm] at hf;cases hf
        rw[hme] at h
        have nG:∀x∈L1.map (qV ops mk),jb ops x.1 o∧(x.2.gb=false∨(je P Γ N ops x.1∧je P Γ N ops o)):=by
          intro x hx
          obtain⟨j,hj,rfl⟩:=bR.1 hx
          refine⟨(wG j hj).1,?_⟩
          rcases(wG j hj).2 with k|k|⟨k1,k2⟩
          · exact Or.inl k
          · rw[hf] at k;cases k
          · refine Or.inr ⟨I9 j (by simpa using k1),?_⟩
            have:=I9 i (by simpa using k2)
            rwa [ho] at this
        have h2:=sq _ nG h
        exact l9 (L:=[]) (K:=fun E s=>uH P Γ N ops (L1.map (qV ops mk)++L2.map (qV ops mk)) K E s) ho h2 hr (fun G' E' s' a' w' k1 k2 k3=>fO k1 k3 k2)
def vT(ops:Array Oper)(mk:Nat->Mk):List (Oper×Mk):=(aq ops.size).map (qV ops mk)
def po:List (Nat×AV)->Nat->Option AV
  |[],_=>none
  |(i,v)::L,k=>if k=i then some v else po L k
theorem nC{k:Nat}:po [] k=none:=rfl
theorem lO{i k:Nat}{v:AV}{L:List (Nat×AV)}:po ((i,v)::L) k=if k=i then some v else po L k:=rfl
def oJ:List (Nat×Nat)->Nat->Option Nat
  |[],_=>none
  |(i,v)::L,k=>if k=i then some v else oJ L k
theorem tw{k:Nat}:oJ [] k=none:=rfl
theorem rU{i k v:Nat}{L:List (Nat×Nat)}:oJ ((i,v)::L) k=if k=i then some v else oJ L k:=rfl
def rV(n:Nat):AV:=.sl 1 n (List.replicate n (.v (.int .u8 0))) .no
def PM(P:Program)(N:Nat)(o:Oper)(n:Nat):Bool:=
  tv P N {o with guard:=none}&&
  match o.op with
  |.makeSlice T (.const (.int _ m)) _=>
    decide (m=(n:Int))&&(match P.underlying T with
      |some (.slice e)=>decide (P.cellsOf e=1)&&(match eO P e with |some [.v (.int .u8 x)]=>decide (x=0)|_=>false)
      |_=>false)
  |_=>false
theorem PN{o:Oper}{n:Nat}(h:PM P N o n=true):tv P N {o with guard:=none}=true∧MC P o=some (rV n):=by
  simp only[PM,aw] at h;obtain⟨h1,h2⟩:=h;refine⟨h1,?_⟩;split at h2
  · rename_i T k m y ho;simp only[aw,decide_eq_true_eq] at h2;obtain⟨rfl,h2⟩:=h2;split at h2
    · rename_i e hT;simp only[aw,decide_eq_true_eq] at h2;obtain⟨hc,h2⟩:=h2;split at h2
      · rename_i x hz;simp only[decide_eq_true_eq] at h2;subst h2;simp only[MC,ho,hT,hz,hc,rV,Nat.mul_one,Jp,Int.toNat_natCast]
      · cases h2
    · cases h2
  · cases h2
def Dm(fl:List Nat)(fz:List (Nat×Nat))(gv:List (Nat×AV))(i:Nat):Mk:=if fl.contains i=true then .yb else match oJ fz i with |some _=>.UJ|none=>match po gv i with |some v=>.LQ v|none=>.val
theorem JY{fl:List Nat}{fz:List (Nat×Nat)}{gv:List (Nat×AV)}{i:Nat}:(Dm fl fz gv i).gb=fl.contains i:=by
  unfold Dm;split
  · rename_i h;rw[h];rfl
  · rename_i h;rw[Bool.not_eq_true] at h;rw[h];cases oJ fz i with
    |some n=>rfl
    |none=>cases po gv i<;>rfl
def JZ(ops:Array Oper)(D:List Nat)(fl fr:List Nat):Bool:=
  (aq ops.size).all fun j=>(aq j).all fun i=>
    match ops[i]?,ops[j]? with
    |some x,some y=>(D.getD j 0).testBit i||(x.apart ops y&& !(fl.contains i&&fl.contains j&& !(fr.contains i&&fr.contains j)))
    |_,_=>true
def HJ(P:Program)(N:Nat)(ops:Array Oper)(fl fr:List Nat)(fz:List (Nat×Nat)):Bool:=
  Bm ops (bx ops).toList&&JZ ops (bx ops).toList fl fr&&(fr.all fun i=>tv P N ((ops[i]?).getD default))&&
    (aq ops.size).all fun i=>match ops[i]?,oJ fz i with |some o,some n=>PM P N o n|_,_=>true
def Bv(mk:Nat->Mk):Nat->List Oper->List (Oper×Mk)
  |_,[]=>[]
  |k,o::L=>(o,mk k)::Bv mk (k+1) L
theorem Gm(mk:Nat->Mk):∀(L:List Oper)(k i:Nat),(Bv mk k L)[i]? =(L[i]?).map fun o=>(o,mk (k+i))
  |[],k,i=>by simp[Bv]
  |o::L,k,0=>by simp[Bv]
  |o::L,k,i+1=>by
    simp only[Bv,List.getElem?_cons_succ,Gm mk L (k+1) i];rw[show k+1+i=k+(i+1) by omega]
theorem MI(mk:Nat->Mk):vT ops mk=Bv mk 0 ops.toList:=by
  apply br;intro i;simp only[vT,aN,Gm,bf];by_cases h:i<ops.size
  · simp[h,qV]
  · simp[h]
def xbA(P:Program)(Γ:Nat->List AV)(k:FuncId)(as:List AV)(v:AV)(c:Prop):Prop:=(∀s,dS P Γ k as s (fun r s'=>r=v∧s'=s))∧c
def Y9(P:Program)(Γ:Nat->List AV)(N:Nat)(o:Oper)(v:AV)(C:Env->Prop)(E:Env):Prop:=(∀d,o.dst=some d->d<N)∧RS P Γ o E v∧C (eR E o.dst v)
theorem vU{dst:Option Tmp}{k:FuncId}{args:Array Operand}{aT:Array TypeId}{ty:TypeId}{pos:String}{after:Array Edge}{v:AV}{C:Env->Prop}{E:Env}:
    Y9 P Γ N {dst:=dst,op:=.call {callee:=.value (.func k),args:=args,argTypes:=aT},type:=ty,pos:=pos,after:=after,guard:=none} v C E=
      ((∀d,dst=some d->d<N)∧b7 P k=true∧xbA P Γ k (args.toList.map (ef Γ E)) v (C (eR E dst v))):=by
  apply propext;constructor
  · rintro⟨h1,⟨_,h2⟩,h3⟩;exact⟨h1,h2.2.2.1,h2.2.2.2,h3⟩
  · rintro⟨h1,h2,h3,h4⟩;exact⟨h1,⟨rfl,⟨rfl,rfl,h2,h3⟩⟩,h4⟩
def J0(P:Program)(Γ:Nat->List AV)(N:Nat)(ops:Array Oper)(fl:List Nat)(fz:List (Nat×Nat))(gv:List (Nat×AV)):Nat->List Oper->(Env->AS->Prop)->Env->AS->Prop
  |_,[],K,E,s=>K E s
  |k,o::rest,K,E,s=>
    if fl.contains k=true then AX P Γ N ops [o] (J0 P Γ N ops fl fz gv (k+1) rest K) E s
    else match oJ fz k with
      |some n=>uG ops o E∧(∀d,o.dst=some d->d<N)∧J0 P Γ N ops fl fz gv (k+1) rest K (eR E o.dst (rV n)) s
      |none=>
        match po gv k with
        |some v=>Y9 P Γ N o v (fun E=>J0 P Γ N ops fl fz gv (k+1) rest K E s) E
        |none=>((∀d,o.dst=some d->d<N)∧match eZ P Γ ops o E with |some v=>J0 P Γ N ops fl fz gv (k+1) rest K (eR E o.dst v) s|none=>False)
theorem RW:∃f:Program->(Nat->List AV)->Nat->Array Oper->List Nat->List (Nat×Nat)->List (Nat×AV)->Nat->List Oper->(Env->AS->Prop)->Env->AS->Prop,f=J0:=⟨_,rfl⟩
noncomputable def XC:Program->(Nat->List AV)->Nat->Array Oper->List Nat->List (Nat×Nat)->List (Nat×AV)->Nat->List Oper->(Env->AS->Prop)->Env->AS->Prop:=cz RW
theorem axz:XC=J0:=ct RW
theorem Cx{fl:List Nat}{fz:List (Nat×Nat)}{gv:List (Nat×AV)}{k:Nat}{K:Env->AS->Prop}{E:Env}:XC P Γ N ops fl fz gv k [] K E s=K E s:=by rw[axz];rfl
theorem yJ{fl:List Nat}{fz:List (Nat×Nat)}{gv:List (Nat×AV)}{k:Nat}{o:Oper}{rest:List Oper}{K:Env->AS->Prop}{E:Env}:XC P Γ N ops fl fz gv k (o::rest) K E s=
    if fl.contains k=true then AY P Γ N ops [o] (XC P Γ N ops fl fz gv (k+1) rest K) E s
    else match oJ fz k with
      |some n=>uG ops o E∧(∀d,o.dst=some d->d<N)∧XC P Γ N ops fl fz gv (k+1) rest K (eR E o.dst (rV n)) s
      |none=>
        match po gv k with
        |some v=>Y9 P Γ N o v (fun E=>XC P Γ N ops fl fz gv (k+1) rest K E s) E
        |none=>((∀d,o.dst=some d->d<N)∧match eZ P Γ ops o E with |some v=>XC P Γ N ops fl fz gv (k+1) rest K (eR E o.dst v) s|none=>False):=by rw[axz,ay];rfl
theorem Dn{fl:List Nat}{fz:List (Nat×Nat)}{gv:List (Nat×AV)}{K:Env->AS->Prop}:∀(L:List Oper)(k:Nat){E:Env}{s:AS},(∀i o n,L[i]? =some o->oJ fz (k+i)=some n->PM P N o n=true)->
    J0 P Γ N ops fl fz gv k L K E s->uH P Γ N ops (Bv (Dm fl fz gv) k L) K E s
  |[],k,E,s,_,h=>h
  |o::L,k,E,s,hc,h=>by
    have EY:∀i o n,L[i]? =some o->oJ fz (k+1+i)=some n->PM P N o n=true:=fun i o' n h1 h2=>hc (i+1) o' n (by simpa using h1) (by rw[show k+(i+1)=k+1+i by omega];exact h2);simp only[J0] at h;simp only[Bv,uH,JY];cases hf:fl.contains k with
    |true=>
      rw[hf] at h;simp only[if_true] at h⊢;have mono:∀{K K':Env->AS->Prop}{E:Env}{s:AS},(∀E s,K E s->K' E s)->AX P Γ N ops [o] K E s->AX P Γ N ops [o] K' E s:=fun hk h=>gi _ hk h;exact mono (fun E' s' hE=>Dn L (k+1) EY hE) h
    |false=>
      rw[hf] at h;simp only[ar,if_false] at h⊢;cases hz:oJ fz k with
      |some n=>
        rw[hz] at h;have hm:Dm fl fz gv k=.UJ:=(by unfold Dm;rw[if_neg (by rw[hf];simp),hz]);rw[hm];exact⟨h.2.1,_,⟨h.1,PN (hc 0 o n rfl (by simpa using hz))⟩,Dn L (k+1) EY h.2.2⟩
      |none=>
        rw[hz] at h;simp only at h;cases hg:po gv k with
        |some v=>
          rw[hg] at h;have hm:Dm fl fz gv k=.LQ v:=(by unfold Dm;rw[if_neg (by rw[hf];simp),hz];simp only[hg]);rw[hm];obtain⟨h1,h2,h3⟩:=h;exact⟨h1,v,⟨rfl,h2⟩,Dn L (k+1) EY h3⟩
        |none=>
          rw[hg] at h;have hm:Dm fl fz gv k=.val:=(by unfold Dm;rw[if_neg (by rw[hf];simp),hz];simp only[hg]);rw[hm];refine⟨h.1,?_⟩;have h:=h.2;split at h
          · rename_i v hv;exact⟨v,hv,Dn L (k+1) EY h⟩
          · exact h.elim
theorem HK{fl:List Nat}{fz:List (Nat×Nat)}{gv:List (Nat×AV)}{fr:List Nat}(h:HJ P N ops fl fr fz=true):yH ops (Dm fl fz gv) fr=true∧(∀i∈fr,je P Γ N ops ((ops[i]?).getD default))∧
    ∀i o n,ops.toList[i]? =some o->oJ fz (0+i)=some n->PM P N o n=true:=by
  simp only[HJ,aw] at h;obtain⟨⟨⟨h1,h2⟩,h3⟩,h4⟩:=h;refine⟨?_,fun i hi=>JW (aB.1 h3 i hi),fun i o n ho hn=>?_⟩
  · simp only[yH,aw];refine⟨h1,?_⟩;unfold Dl;unfold JZ at h2;simpa only[JY] using h2
  · rw[bf] at hn;have wy:ops[i]? =some o:=(by simpa using ho);have hi:i<ops.size:=(ao.1 wy).1;have:=aB.1 h4 i (by simpa using hi);rw[wy,hn] at this;exact this
section
variable{Q:Exit->Env->AS->Prop}{E:Env}
end
end Go.AM
namespace Go.AM
open Go Go.RowKit
variable{rd:Option Nat}{P:Program}{Γ:Nat->List AV}{G:Gh}{s:AS}{w:World}{N:Nat}{ops:Array Oper}
theorem yK{E:Env}{Q:Exit->Env->AS->Prop}(hm:P.follows .mixedOrders=true)(mk:Nat->Mk)(fr:List Nat){id:Nat}(mR:yH ops mk fr=true)(I9:∀i∈fr,je P Γ N ops ((ops[i]?).getD default))
    (h:uH P Γ N ops (vT ops mk) (fun E' s'=>∃mW mb,kx Γ N E' s' mW mb∧(∀i,i∉fT ops.toList->mW i=E' i)∧Q .normal mW mb) E s):
    fY P Γ N (.region id ops true) Q E s:=by
  intro G a w hr;refine wpIn_region_any hm ?_;have Bn:left ops (cb ops.size false)=aq ops.size:=by
    unfold left;rw[List.filter_eq_self];intro i hi;have :i<ops.size:=(by simpa using hi);simp[this]
  have xo:Rel Γ N G E s a w.drew:=⟨hr.st.drew,hr.size,hr.tmps,hr.defers⟩;refine HI I9 mR ops.size (cb ops.size false) sM (by rw[Bn];simp) ?_ (by rw[Bn];exact As _ h) xo ?_
  · intro i o ho hl;have :i<ops.size:=(ao.1 ho).1;simp[this] at hl
  · intro G' E' s' a' w' h1 h2 h3;obtain⟨⟨mW,mb,k1,k2,k3⟩,k4⟩:=h3;obtain⟨ya,q1,q2⟩:=k1 G' a' w' h2;refine⟨ya,mW,mb,h1.trans q1,q2,k3,fun i hi=>?_⟩;have et:i∉fT ops.toList:=fun hm=>hi hm;rw[k2 i et];refine k4 i fun hm=>hi ?_;have :(vT ops mk).map (·.1)=ops.toList:=by
      apply br;intro j;simp only[vT,aN];by_cases hj:j<ops.size
      · simp[hj,qV]
      · simp[hj]
    have JC:i∈fT ((vT ops mk).map (·.1)):=hm;rw[this] at JC;exact JC
variable{Q:Exit->Env->AS->Prop}{E:Env}
theorem HL(hm:P.follows .mixedOrders=true)(d1 d2:Nat)(fl:List Nat)(fz:List (Nat×Nat))(gv:List (Nat×AV))(fr:List Nat){id:Nat}{L:List Oper}{y:Code}(mR:HJ P N L.toArray fl fr fz=true)(RP:d1∈fT L)(PJ:d2∈fT L)(gP:d1≠d2)
    (h:∀K:Env->AS->Prop,(∀E s o1 o2 LP LM,E d1=.ptr o1 0->E d2=.ptr o2 0->s.dD o1=none->(s.set o1 LP).dD o2=none->fY P Γ N y Q (dY (dY E d2 (.ij LM)) d1 (.ij LP)) s->K E ((s.set o1 LP).set o2 LM))->XC P Γ N L.toArray fl fz gv 0 L K E s):
    fY P Γ N (.seq (.region id L.toArray true) y) Q E s:=by
  obtain⟨h1,h2,h3⟩:=HK (Γ:=Γ) (gv:=gv) mR;refine oX (yK hm (Dm fl fz gv) fr h1 h2 ?_);have:=h (fun E' s'=>∃mW mb,kx Γ N E' s' mW mb∧(∀i,i∉fT L->mW i=E' i)∧dJ (fY P Γ N y Q) Q .normal mW mb) ?_
  · rw[axz] at this;rw[MI];exact Dn L 0 h3 this
  · intro E' s' o1 o2 LP LM h1 h2 h3 h4 h5;refine⟨dY (dY E' d2 (.ij LM)) d1 (.ij LP),s',?_,?_,h5⟩
    · have g1:=kx.oH (Γ:=Γ) (N:=N) (E:=E') (s:=(s'.set o1 LP).set o2 LM) (d:=d2) h2 (AS.bG _ _ _);rw[AS.drop_set h4] at g1;have g2:=kx.oH (Γ:=Γ) (N:=N) (E:=dY E' d2 (.ij LM)) (s:=s'.set o1 LP) (d:=d1) (by rw[lE _ _ gP];exact h1) (AS.bG _ _ _);rw[AS.drop_set h3] at g2;exact g1.trans g2
    · intro i hi;rw[lE _ _ (fun e=>hi (by rw[e];exact RP)),lE _ _ (fun e=>hi (by rw[e];exact PJ))]
theorem J1{s:AS}{o1 o2:Nat}(h:o1≠o2)(a b c d:List AV):(((s.set o1 a).set o2 b).set o1 c).set o2 d=(s.set o1 c).set o2 d:=by
  rw[AS.Vl _ h,AS.set_set]
end Go.AM
namespace Go.AM
open Go Go.RowKit
variable{P:Program}{Γ:Nat->List AV}{G:Gh}{s:AS}{w:World}{N:Nat}
theorem kj.dV.append{a b c d:List AV}(h:kj.dV a c)(k:kj.dV b d):kj.dV (a++b) (c++d):=by
  intro G v hv;have hl:=hv.length;have h1:=hv.take a.length;have h2:=hv.drop a.length;rw[List.take_left] at h1;rw[List.drop_left] at h2;have:=dP.append (h G _ h1) (k G _ h2);rwa [bW] at this
def AS.tells(Γ:Nat->List AV)(s s':AS):Prop:=∀G w,eo Γ G s w->eo Γ G s' w
theorem eo.Vs{o:Nat}{cs cs':List AV}(h:eo Γ G s w)(ho:s.dD o=some cs)(hw:kj.dV cs cs'):eo Γ G (s.set o cs') w:=by
  refine⟨h.ro,?_,h.ib,h.inj,h.own,h.gM,h.fL,h.gF,h.fW,h.below,h.others,h.base,h.nE,h.soft⟩;intro o' ds hd;by_cases e:o'=o
  · subst e;rw[AS.bG] at hd;cases hd;obtain⟨b,vs,h1,h2,h3,h4⟩:=h.dD o' cs ho;exact⟨b,vs,h1,hw G vs h2,h3,h4⟩
  · rw[AS.cO _ e] at hd;exact h.dD o' ds hd
theorem AS.oK{o:Nat}{cs cs':List AV}(ho:s.dD o=some cs)(hw:kj.dV cs cs'):AS.tells Γ s (s.set o cs'):=fun _ _ h=>h.Vs ho hw
theorem qB{c:Code}{Q:Exit->Env->AS->Prop}{E:Env}{s s':AS}(h:AS.tells Γ s s')(k:fY P Γ N c Q E s'):fY P Γ N c Q E s:=
  fun G a w hr=>k G a w ⟨h G w hr.st,hr.size,hr.tmps,hr.defers⟩
def il(sz:Nat)(s0 s:AS)(x:AV)(n:Nat)(cs:List AV):Prop:=(x=eW∧n=0∧cs=[])∨∃t e,x=.sl sz n cs (.own t e)∧s.own t=some e∧s0.own t=none
theorem il.dV{sz:Nat}{s0 s:AS}{x:AV}{n:Nat}{cs:List AV}(h:il sz s0 s x n cs):x.dV (.sl sz n cs .any):=by
  rcases h with⟨rfl,rfl,rfl⟩|⟨t,e,rfl,_,_⟩
  · exact AV.eh
  · exact AV.fc
theorem il.one{sz:Nat}{s0 s:AS}{x:AV}{n:Nat}{cs:List AV}(h:il sz s0 s x n cs):x.one=true:=by
  rcases h with⟨rfl,_,_⟩|⟨t,e,rfl,_,_⟩
  · rfl
  · rfl
theorem il.nil(sz:Nat)(s0 s:AS):il sz s0 s eW 0 []:=.inl ⟨rfl,rfl,rfl⟩
theorem il.own{sz:Nat}{s0 s s':AS}{x:AV}{n:Nat}{cs:List AV}(h:il sz s0 s x n cs)(k:∀t e,s.own t=some e->s0.own t=none->s'.own t=some e):il sz s0 s' x n cs:=by
  rcases h with h|⟨t,e,h1,h2,h3⟩
  · exact .inl h
  · exact .inr ⟨t,e,h1,k t e h2 h3,h3⟩
end Go.AM
