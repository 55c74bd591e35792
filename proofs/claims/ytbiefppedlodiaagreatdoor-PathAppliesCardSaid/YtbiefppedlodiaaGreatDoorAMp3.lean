/- An abstract machine for the model and the rules of its walk, each proved sound over the model; no condition. -/
import Derived.Test.YtbiefppedlodiaaGreatDoorAMp2
import Derived.OpenShut
set_option linter.unusedSimpArgs false
set_option linter.unusedVariables false
namespace Go.AM
open Go Go.RowKit
variable{rd:Option Nat}{P:Program}{Γ:Nat→List AV}{G:Gh}{s:AS}{w:World}
def NZ(ops:Array Oper)(D:List Nat)(o:Oper):Nat:=
  o.after.toList.foldl (fun m e=>if Region.binds .any e then m ||| 2^e.on ||| D.getD e.on 0 else m) 0
def AH(ops:Array Oper)(D:List Nat):Bool:=
  (List.range ops.size).all fun i=>
    match ops[i]? with
    |some o=>D.getD i 0==NZ ops D o&&o.after.toList.all fun e=>!Region.binds .any e||decide (e.on<i)
    |none=>true
def Hq(ops:Array Oper)(D:List Nat)(fl:List Nat):Bool:=
  (List.range ops.size).all fun j=>(List.range j).all fun i=>
    match ops[i]?,ops[j]? with
    |some x,some y=>(D.getD j 0).testBit i||(x.apart ops y&& !(fl.contains i&&fl.contains j))
    |_,_=>true
def ru(ops:Array Oper)(fl:List Nat):Bool:=
  AH ops (Region.before ops).toList&&Hq ops (Region.before ops).toList fl
theorem sG(D:List Nat)(l:Nat):∀(es:List Edge)(m:Nat),(es.foldl (fun m e=>if Region.binds .any e then m ||| 2^e.on ||| D.getD e.on 0 else m) m).testBit l=true→
    m.testBit l=true∨∃e∈es,Region.binds .any e=true∧(l=e.on∨(D.getD e.on 0).testBit l=true)
  |[],m,h=>.inl h
  |e::es,m,h=>by
    simp only[List.foldl_cons] at h;rcases sG D l es _ h with h1|⟨e',h1,h2⟩
    · split at h1
      · rename_i hb;rw[Nat.testBit_or,Nat.testBit_or] at h1;simp only[Bool.or_eq_true] at h1;rcases h1 with(h1|h1)|h1
        · exact .inl h1
        · rw[Nat.testBit_two_pow] at h1;exact .inr ⟨e,by simp,hb,.inl (of_decide_eq_true h1).symm⟩
        · exact .inr ⟨e,by simp,hb,.inr h1⟩
      · exact .inl h1
    · exact .inr ⟨e',by simp[h1],h2⟩
theorem iT{ops:Array Oper}{D:List Nat}(h:AH ops D=true){i:Nat}{o:Oper}(ho:ops[i]? =some o):
    (∀l,(D.getD i 0).testBit l=true→∃e∈o.after.toList,Region.binds .any e=true∧(l=e.on∨(D.getD e.on 0).testBit l=true))∧∀e∈o.after.toList,Region.binds .any e=true→e.on<i:=by
  unfold AH at h;rw[List.all_eq_true] at h;have hi:i<ops.size:=by
    rcases Nat.lt_or_ge i ops.size with h'|h'
    · exact h'
    · simp[Array.getElem?_eq_none h'] at ho
  have:=h i (by simpa using hi);simp only[ho,Bool.and_eq_true,beq_iff_eq,List.all_eq_true] at this;refine⟨fun l hl=>?_,fun e he hb=>?_⟩
  · rw[this.1] at hl;rcases sG D l _ _ hl with h1|h1
    · simp at h1
    · exact h1
  · have:=this.2 e he;simpa[hb] using this
section
variable{N:Nat}{ops:Array Oper}
def left(ops:Array Oper)(listed:Array Bool):List Nat:=(List.range ops.size).filter fun i=>!listed.getD i true
theorem mem_left{listed:Array Bool}{i:Nat}:i∈left ops listed↔i<ops.size∧listed.getD i true=false:=by
  simp[left]
def ry(ops:Array Oper)(fl:List Nat)(i:Nat):Oper×Bool:=((ops[i]?).getD default,fl.contains i)
theorem xz{listed:Array Bool}{i:Nat}(hl:listed.size=ops.size)(hi:i<ops.size)(h0:listed.getD i true=false):
    ∃L1 L2,left ops listed=L1++i::L2∧left ops (listed.setIfInBounds i true)=L1++L2∧(∀x∈L1,x<i∧listed.getD x true=false):=by
  have key:∀(n k:Nat),k≤i→i<k+n→
      ∃L1 L2,(List.range' k n).filter (fun i=>!listed.getD i true)=L1++i::L2∧(List.range' k n).filter (fun j=>!(listed.setIfInBounds i true).getD j true)=L1++L2∧(∀x∈L1,x<i∧listed.getD x true=false):=by
    intro n;induction n with
    |zero=>intro k h1 h2;omega
    |succ n ih=>
      intro k h1 h2;rw[List.range'_succ];by_cases hk:k=i
      · subst hk;refine⟨[],(List.range' (k+1) n).filter (fun i=>!listed.getD i true),?_,?_,by simp⟩
        · rw[List.filter_cons_of_pos (by simpa using h0)];rfl
        · rw[List.filter_cons_of_neg (by simp[hl,hi])];simp only[List.nil_append];apply List.filter_congr;intro x hx;rw[getD_set_ne true (by simp at hx;omega)]
      · obtain⟨L1,L2,q1,q2,q3⟩:=ih (k+1) (by omega) (by omega);have dK:(listed.setIfInBounds i true).getD k true=listed.getD k true:=getD_set_ne true (by omega);by_cases hb:listed.getD k true=false
        · refine⟨k::L1,L2,?_,?_,?_⟩
          · rw[List.filter_cons_of_pos (by simpa using hb),q1];rfl
          · rw[List.filter_cons_of_pos (by rw[dK];simpa using hb),q2];rfl
          · intro x hx;rcases List.mem_cons.1 hx with rfl|hx
            · exact⟨by omega,hb⟩
            · exact q3 x hx
        · refine⟨L1,L2,?_,?_,q3⟩
          · rw[List.filter_cons_of_neg (by simpa using hb),q1]
          · rw[List.filter_cons_of_neg (by rw[dK];simpa using hb),q2]
  have:=key ops.size 0 (by omega) (by omega);simpa[left,List.range_eq_range'] using this
theorem BU{fl:List Nat}{Q:Exit→Act→World→Prop}{K:Env→AS→Prop}(iN:ru ops fl=true):
    ∀(fuel:Nat)(listed:Array Bool){G:Gh}{E:Env}{s:AS}{a:Act}{w:World},listed.size=ops.size→(left ops listed).length≤fuel→
      (∀(i:Nat)(o:Oper),ops[i]? =some o→listed.getD i true=true→∀e∈o.after.toList,Region.binds .any e=true→listed.getD e.on false=true)→
      pz P Γ N ops ((left ops listed).map (ry ops fl)) K E s→Rel Γ N G E s a w→
      (∀G' E' s' a' w',G.le G'→Rel Γ N G' E' s' a' w'→K E' s'→Q .normal a' w')→wpAnyIn (uo rd) 0 P .any ops Q fuel listed a w:=by
  simp only[ru,Bool.and_eq_true] at iN
  obtain⟨zD,rz⟩:=iN
  intro fuel
  have pA:∀(listed:Array Bool),Region.ready .any ops listed=[]→left ops listed=[]:=by
    intro listed h
    -- the first that is left could go
    cases hl:left ops listed with
    |nil=>rfl
    |cons i L=>
      exfalso
      have hi:i∈left ops listed:=by rw[hl];simp
      obtain⟨h1,h2⟩:=mem_left.1 hi
      have BV:∀j,j<i→listed.getD j true=true:=by
        intro j hj
        cases FP:listed.getD j true with
        |true=>rfl
        |false=>
          exfalso
          have Hr:j∈left ops listed:=mem_left.2 ⟨by omega,FP⟩
          have hs:(left ops listed).Pairwise (· < ·):=by
            unfold left
            exact List.Pairwise.filter _ List.pairwise_lt_range
          rw[hl] at hs Hr
          rcases List.mem_cons.1 Hr with rfl|Hr
          · omega
          · have:=(List.pairwise_cons.1 hs).1 j Hr
            omega
      have ho:ops[i]? =some ops[i]:=by simp[h1]
      have hr:i∈Region.ready .any ops listed:=by
        rw[mem_ready]
        refine⟨h2,_,ho,fun e he hb=>?_⟩
        have bJ:=(iT zD ho).2 e (by simpa using he) hb
        have:=BV _ bJ
        -- both defaults agree where the place is there
        have eR:e.on<listed.size:=by
          rcases Nat.lt_or_ge e.on listed.size with h'|h'
          · exact h'
          · exfalso
            have :listed.getD i true=true:=by
              simp[Array.getElem?_eq_none (show listed.size≤i by omega)]
            rw[h2] at this;cases this
        simpa[eR] using this
      rw[h] at hr
      cases hr
  induction fuel with
  |zero=>
    intro listed G E s a w eR hlen iF h hr hq
    have hl:left ops listed=[]:=List.eq_nil_of_length_eq_zero (by omega)
    have ks:Region.ready .any ops listed=[]:=by
      cases RN:Region.ready .any ops listed with
      |nil=>rfl
      |cons i L=>
        exfalso
        have :i∈Region.ready .any ops listed:=by rw[RN];simp
        rw[mem_ready] at this
        obtain⟨h0,o,ho,_⟩:=this
        have :i∈left ops listed:=mem_left.2 ⟨(Array.getElem?_eq_some_iff.1 ho).1,h0⟩
        rw[hl] at this
        cases this
    rw[hl] at h
    exact⟨ks,hq G E s a w (.refl G) hr h⟩
  |succ fuel ih=>
    intro listed G E s a w eR hlen iF h hr hq
    refine⟨fun ks=>?_,fun i hi=>?_⟩
    · rw[pA listed ks] at h
      exact hq G E s a w (.refl G) hr h
    · obtain⟨h0,o,ho,bT⟩:=mem_ready.1 hi
      have zE:i<ops.size:=(Array.getElem?_eq_some_iff.1 ho).1
      obtain⟨L1,L2,q1,q2,q3⟩:=xz eR zE h0
      -- what comes before i is done
      have sH:∀(j:Nat)(oj:Oper),ops[j]? =some oj→(∀e∈oj.after.toList,Region.binds .any e=true→listed.getD e.on false=true)→∀l,((Region.before ops).toList.getD j 0).testBit l=true→listed.getD l false=true:=by
        intro j
        induction j using Nat.strongRecOn with
        |_ j UE=>
          intro oj AJ hj l hl
          obtain⟨d1,d2⟩:=iT zD AJ
          obtain⟨e,he,hb,h1⟩:=d1 l hl
          have vq:=hj e he hb
          rcases h1 with rfl|h1
          · exact vq
          · have bJ:=d2 e he hb
            have UF:e.on<ops.size:=by
              have:=(Array.getElem?_eq_some_iff.1 AJ).1
              omega
            have Dz:ops[e.on]? =some ops[e.on]:=by simp[UF]
            refine UE e.on bJ _ Dz (iF e.on _ Dz ?_) l h1
            have :e.on<listed.size:=by omega
            simpa[this] using vq
      have AK:∀x∈L1,fo ops ((ops[x]?).getD default) o∧¬(fl.contains x=true∧fl.contains i=true):=by
        intro x hx
        obtain⟨hxi,Nq⟩:=q3 x hx
        unfold Hq at rz
        rw[List.all_eq_true] at rz
        have h1:=rz i (by simpa using zE)
        rw[List.all_eq_true] at h1
        have h2:=h1 x (by simpa using hxi)
        have UG:ops[x]? =some (ops[x]'(by omega)):=by simp
        rw[UG,ho] at h2
        simp only[Bool.or_eq_true,Bool.and_eq_true,Bool.not_eq_true'] at h2
        rcases h2 with h2|⟨h2,h3⟩
        · exfalso
          have:=sH i o ho (fun e he hb=>bT e (by simpa using he) hb) x h2
          have UH:x<listed.size:=by omega
          simp[UH] at this Nq
          rw[Nq] at this;cases this
        · refine⟨by rw[UG];exact h2,fun hc=>?_⟩
          rw[hc.1,hc.2] at h3
          cases h3
      have cr:∀{G':Gh}{E':Env}{s':AS}{a':Act}{w':World},G.le G'→pz P Γ N ops ((L1++L2).map (ry ops fl)) K E' s'→Rel Γ N G' E' s' a' w'→wpAnyIn (uo rd) 0 P .any ops Q fuel (listed.setIfInBounds i true) a' w':=by
        intro G' E' s' a' w' hle hA BT
        refine ih (listed.setIfInBounds i true) (by simpa using eR) ?_ ?_ ?_ BT (fun vp kq iI zB wj k1 k2 k3=>hq vp kq iI zB wj (hle.trans k1) k2 k3)
        · rw[q2]
          rw[q1] at hlen
          simp at hlen⊢
          omega
        · intro j oj AJ hj e he hb
          by_cases DA:j=i
          · subst DA
            rw[ho] at AJ;cases AJ
            exact getD_set_true (bT e (by simpa using he) hb)
          · rw[getD_set_ne true (Ne.symm DA)] at hj
            exact getD_set_true (iF j oj AJ hj e he hb)
        · rw[q2];exact hA
      rw[q1] at h
      simp only[List.map_append,List.map_cons] at h cr
      have gP:ry ops fl i=(o,fl.contains i):=by simp[ry,ho]
      rw[gP] at h
      cases hf:fl.contains i with
      |false=>
        rw[hf] at h
        have mb:∀x∈L1.map (ry ops fl),fo ops x.1 o:=by
          intro x hx
          obtain⟨j,hj,rfl⟩:=List.mem_map.1 hx
          exact(AK j hj).1
        obtain⟨hd,v,hv⟩:=xy _ mb h hr
        have h1:=lF _ mb hv h
        have hX:pz P Γ N ops ((o,false)::(L1.map (ry ops fl)++L2.map (ry ops fl))) K E s:=by
          simp only[pz,Bool.false_eq_true,if_false,hv]
          exact⟨hd,h1⟩
        have h2:=FX hX
        exact je (L:=[]) (K:=fun E s=>pz P Γ N ops (L1.map (ry ops fl)++L2.map (ry ops fl)) K E s) ho h2 hr (fun G' E' s' a' w' k1 k2 k3=>cr k1 k3 k2)
      |true=>
        rw[hf] at h
        have mb:∀x∈L1.map (ry ops fl),fo ops x.1 o∧x.2=false:=by
          intro x hx
          obtain⟨j,hj,rfl⟩:=List.mem_map.1 hx
          refine⟨(AK j hj).1,?_⟩
          cases hc:fl.contains j with
          |false=>exact hc
          |true=>exact absurd ⟨hc,hf⟩ (AK j hj).2
        have h2:=qI _ mb h
        exact je (L:=[]) (K:=fun E s=>pz P Γ N ops (L1.map (ry ops fl)++L2.map (ry ops fl)) K E s) ho h2 hr (fun G' E' s' a' w' k1 k2 k3=>cr k1 k3 k2)
def marked(ops:Array Oper)(fl:List Nat):List (Oper×Bool):=(List.range ops.size).map (ry ops fl)
theorem ur:∀(L:List (Oper×Bool)){K:Env→AS→Prop}{E:Env}{s:AS},pz P Γ N ops L K E s→pz P Γ N ops L (fun E' s'=>K E' s'∧∀i,i∉cq (L.map (·.1))→E' i=E i) E s
  |[],K,E,s,h=>⟨h,fun _ _=>rfl⟩
  |(o,wY)::L,K,E,s,h=>by
    have nQ:∀i,i∉cq (((o,wY)::L).map (·.1))→i∉cq (L.map (·.1))∧o.dst≠some i:=by
      intro i hi;simp only[cq,List.map_cons,List.filterMap_cons] at hi;refine⟨fun hm=>hi ?_,fun e=>hi (by simp[e])⟩;simp only[cq] at hm;split
      · exact hm
      · exact List.mem_cons_of_mem _ hm
    simp only[pz] at h⊢;split at h
    · rename_i he;rw[if_pos he];refine cU _ (fun E' s' hE=>?_) (dh h);refine sF L (fun kq iI DC=>⟨DC.1,fun i hi=>?_⟩) (ur L hE.1);obtain⟨m1,m2⟩:=nQ i hi;rw[DC.2 i m1,hE.2 i m2]
    · rename_i he;rw[if_neg he];refine⟨h.1,?_⟩;have h:=h.2;split at h
      · refine sF L (fun kq iI DC=>⟨DC.1,fun i hi=>?_⟩) (ur L h);obtain⟨m1,m2⟩:=nQ i hi;rw[DC.2 i m1,cw m2]
      · exact h
theorem oC{E:Env}{Q:Exit→Env→AS→Prop}(hm:P.follows .mixedOrders=true)(fl:List Nat){id:Nat}(iN:ru ops fl=true)(h:pz P Γ N ops (marked ops fl) (fun E' s'=>Q .normal E' s') E s):
    cp P Γ N (.region id ops true) Q E s:=by
  intro G a w hr;refine wpIn_region_any hm ?_;have DD:left ops (Array.replicate ops.size false)=List.range ops.size:=by
    unfold left;rw[List.filter_eq_self];intro i hi;have :i<ops.size:=(by simpa using hi);simp[this]
  have BT:Rel Γ N G E s a w.drew:=⟨hr.st.drew,hr.size,hr.tmps,hr.defers⟩;refine BU iN ops.size (Array.replicate ops.size false) (by simp) (by rw[DD];simp) ?_ (by rw[DD];exact ur _ h) BT ?_
  · intro i o ho hl;have :i<ops.size:=(Array.getElem?_eq_some_iff.1 ho).1;simp[this] at hl
  · intro G' E' s' a' w' h1 h2 h3;refine⟨G',E',s',h1,h2,h3.1,fun i hi=>h3.2 i fun hm=>hi ?_⟩;have :(marked ops fl).map (·.1)=ops.toList:=by
      apply List.ext_getElem?;intro j;simp only[marked,List.getElem?_map];by_cases hj:j<ops.size
      · simp[hj,ry]
      · simp[hj]
    have Hs:i∈cq ((marked ops fl).map (·.1)):=hm;rw[this] at Hs;exact Hs
end
end Go.AM
namespace Go.AM
open Go Go.RowKit
variable{rd:Option Nat}{P:Program}{Γ:Nat→List AV}{G:Gh}{s:AS}{w:World}
def bC(args:List AV):Env:=fun i=>args.getD i (.v undef)
def c7(P:Program)(E:Env)(s:AS):ResultVar→Option AV
  |.tmp t=>some (E t)
  |.cell a T=>
    match E a with
    |.ptr o off=>
      match s.aw o with
      |some cs=>if P.cellsOf T=0 then none else oA P T (cs.drop off)
      |none=>none
    |_=>none
def bD(P:Program)(E:Env)(s:AS):List ResultVar→Option (List AV)
  |[]=>some []
  |r::rs=>match c7 P E s r,bD P E s rs with |some v,some vs=>some (v::vs)|_,_=>none
def et:List AV→AV
  |[r]=>r
  |rs=>.eo rs
def bt(P:Program)(rs:List ResultVar)(b6:AV→AS→Prop)(E:Env)(s:AS):Prop:=
  match bD P E s rs with
  |some vs=>∃r s',(et vs).aB r∧s'.le s∧b6 r s'
  |none=>False
def cf(P:Program)(rs:List ResultVar)(b6:AV→AS→Prop):Exit→Env→AS→Prop
  |.normal,E,s=>bt P rs b6 E s
  |.ret,E,s=>bt P rs b6 E s
  |_,_,_=>False
def Kc(tmps:Array Value):ResultVar→Sem Value
  |.tmp t=>pure (tmps.getD t undef)
  |.cell b t=>do loadVar t (←asAddr (tmps.getD b undef))
theorem lG(fn:Func)(tmps:Array Value):results fn tmps=(do let vs ←fn.results.mapM (Kc tmps);pure (if h:vs.size=1 then vs[0] else .tuple vs)):=by
  unfold results;have :(fun x:ResultVar=>(match x with |.tmp t=>pure (tmps.getD t undef)|.cell a t=>(do loadVar t (←asAddr (tmps.getD a undef)):Sem Value):Sem Value))=Kc tmps:=by
    funext x;cases x<;>rfl
  rw[←this];rfl
theorem Kd{N:Nat}{E:Env}{a:Act}(hr:Rel Γ N G E s a w){rv:ResultVar}{v:AV}(h:c7 P E s rv=some v):
    ∃z,(Kc a.tmps rv).run P w=.ok z w∧av G v z:=by
  cases rv with
  |tmp t=>simp only[c7] at h;cases h;exact⟨_,rfl,hr.tmps t⟩
  |cell b T=>
    simp only[c7] at h;have hb:=hr.tmps b;split at h
    · rename_i o off hE;rw[hE] at hb;split at h
      · rename_i cs Fv;split at h
        · cases h
        · rename_i hz;simp only[av] at hb;obtain⟨nE,xbc,hu⟩:=hb;obtain⟨b',vs,h1,h2,h3,h4⟩:=hr.st.aw o cs Fv;rw[xbc] at h1;cases h1;obtain⟨z,q1,q2⟩:=nH (w:=w) h hz (h2.drop off) (b:=nE) (off:=off) (fun j u hj=>by
            rw[cA];rw[List.getElem?_drop] at hj;exact(h4 _ _ hj).1)
          refine⟨z,?_,q2⟩;simp only[Kc];rw[hu];simp[asAddr,q1]
      · cases h
    · cases h
theorem qh{N:Nat}{E:Env}{a:Act}(hr:Rel Γ N G E s a w):∀{rs:List ResultVar}{vs:List AV},bD P E s rs=some vs→
    ∃zs:List Value,(rs.mapM (Kc a.tmps)).run P w=.ok zs w∧au G vs zs
  |[],vs,h=>by simp only[bD] at h;cases h;exact⟨[],by simp,by simp[au]⟩
  |r::rs,vs,h=>by
    simp only[bD] at h;split at h
    · rename_i v Nn h1 h2;cases h;obtain⟨z,q1,q2⟩:=Kd hr h1;obtain⟨zs,q3,q4⟩:=qh hr h2;refine⟨z::zs,?_,by simp only[au];exact⟨z,zs,rfl,q2,q4⟩⟩;simp only[List.mapM_cons,Sem.run_bind,q1,Result.andThen_ok,q3,Sem.run_pure]
    · cases h
theorem rA{vs:List AV}{zs:List Value}(h:au G vs zs):av G (et vs) (if h:zs.toArray.size=1 then zs.toArray[0] else .tuple zs.toArray):=by
  have hl:=h.length;match vs,zs,h with
  |[],[],h=>simp only[et,av];exact⟨[],rfl,h⟩
  |[v],[z],h=>
    simp only[au] at h;obtain⟨u,us,h1,h2,_⟩:=h;cases h1;simpa[et] using h2
  |v::v'::vs,z::z'::zs,h=>
    simp only[et,av];exact⟨z::z'::zs,by simp,h⟩
  |[],z::zs,h=>simp at hl
  |v::vs,[],h=>simp at hl
  |[v],z::z'::zs,h=>simp at hl
  |v::v'::vs,[z],h=>simp at hl
theorem IL{f:FuncId}{fn:Func}{c:Code}{args:List AV}{b6:AV→AS→Prop}{s:AS}(hf:P.funcs[f]? =some fn)(hb:fn.body=some c)(hn:args.length≤fn.ntmps)
    (h:cp P Γ fn.ntmps c (cf P fn.results.toList b6) (bC args) s):aj P Γ f args s b6:=by
  intro G w vs hs hv;have Qn:=hv.length;refine calls_of_wp hf hb ?_;have xA:Rel Γ fn.ntmps (G.cI []) (bC args) s {tmps:=vs.toArray++Array.replicate (fn.ntmps-vs.toArray.size) undef,defers:=[]} w:=by
    refine⟨hs.cI,by simp;omega,fun i=>?_,rfl⟩;simp only[bC];by_cases hi:i<args.length
    · obtain⟨u,h1,h2⟩:=hv.getD i hi;have aY:i<vs.length:=(by omega);rw[Array.getD_eq_getD_getElem?,Array.getElem?_append_left (by simpa using aY)];simp only[List.getElem?_toArray,h1,Option.getD_some];exact av.cI _ _ h2
    · have e1:args.getD i (.v undef)=.v undef:=(by simp[List.getD,List.getElem?_eq_none (Nat.le_of_not_lt hi)]);rw[e1,Array.getD_eq_getD_getElem?,Array.getElem?_append_right (by simp;omega)];simp only[av];cases hh:(Array.replicate (fn.ntmps-vs.toArray.size) undef)[i-vs.toArray.size]? with
      |none=>rfl
      |some u=>
        rw[Array.getElem?_replicate] at hh;split at hh
        · cases hh;rfl
        · cases hh
  refine wpIn_wide.1 (wpIn_mono (F:=uo none) (n:=0) (h _ _ w xA) ?_);rintro e a' w' ⟨G',E',s',h1,h2,h3,h4⟩;have fin:bt P fn.results.toList b6 E' s'→bodyPost P fn (fun e w'=>∃G' r v s',e=.returned v∧G.le G'∧aP Γ G' s' w'∧av G' r v∧b6 r s') .normal a' w':=by
    intro hF;unfold bt at hF;split at hF
    · rename_i Nn Ft;obtain⟨r,s2,q1,q2,q3⟩:=hF;obtain⟨zs,r1,r2⟩:=qh h2 Ft;refine⟨h2.defers.trans h1.df,if h:zs.toArray.size=1 then zs.toArray[0] else .tuple zs.toArray,?_,G'.cI G.df,r,_,s2,rfl,Gh.xj h1,(h2.st.mono q2).cI,av.cI _ _ (q1 _ _ (rA r2)),q3⟩;rw[lG,Array.mapM_eq_mapM_toList];simp only[Sem.run_bind,Sem.run_map,r1,Result.andThen_ok,Sem.run_pure]
    · exact hF.elim
  cases e<;>simp only[cf] at h3;case normal=>exact fin h3
  case ret=>exact fin h3
def gZ(Γ:Nat→List AV)(N:Nat)(E:Env)(s:AS)(E':Env)(s':AS):Prop:=
  ∀(G:Gh)(a:Act)(w:World),Rel Γ N G E s a w→∃G',G.le G'∧Rel Γ N G' E' s' a w
theorem gZ.freeze{N:Nat}{E:Env}{s:AS}{d o off sz n cap:Nat}{cs:List AV}(hE:E d=.gR o off sz n cap)(ho:s.aw o=some cs)(hle:off+n*sz≤cs.length):
    gZ Γ N E s (aH E d (.sl sz n ((cs.drop off).take (n*sz)) .no)) (s.drop o):=by
  intro G a w hr;obtain⟨b,vs,h1,h2,h3,h4,h5⟩:=hr.st.freeze ho;refine⟨_,h3,h5,hr.size,fun i=>?_,hr.defers.trans h3.df.symm⟩;simp only[aH];split
  · rename_i e;subst e;have:=hr.tmps i;rw[hE] at this;simp only[av] at this;obtain⟨b',k1,k2,k3⟩:=this;rw[h1] at k1;cases k1;have hl:=h2.length;rw[k2];simp only[av];refine .inl ⟨b,off,cap,(vs.drop off).take (n*sz),rfl,by simp;omega,k3,au.mono h3 _ _ ((h2.drop _).take _),?_,trivial⟩;have:=(h4.drop off).take (n*sz);simpa using this
  · exact av.mono h3 _ _ (hr.tmps i)
theorem m6{N:Nat}{E:Env}{Q:Exit→Env→AS→Prop}{id:Nat}{ops:Array Oper}
    (h:AX P Γ N ops ops.toList (fun E' s'=>∃kq iI,gZ Γ N E' s' kq iI∧(∀i,i∉cq ops.toList→kq i=E' i)∧Q .normal kq iI) E s):cp P Γ N (.region id ops false) Q E s:=by
  intro G a w hr;refine wpIn_region (lD ops.toList _ ?_ (dH _ h) hr ?_)
  · apply List.ext_getElem?;intro i;simp only[List.getElem?_map];by_cases hi:i<ops.size
    · simp[hi]
    · simp[hi]
  · intro G' E' s' a' w' h1 h2 h3;obtain⟨⟨kq,iI,k1,k2,k3⟩,k4⟩:=h3;obtain⟨vp,q1,q2⟩:=k1 G' a' w' h2;exact⟨vp,kq,iI,h1.trans q1,q2,k3,fun i hi=>by rw[k2 i hi,k4 i hi]⟩
theorem AV.cB{a b c d:AV}(h:a.aB c)(k:b.aB d):(AV.eo [a,b]).aB (.eo [c,d]):=by
  intro G v hv;simp only[av,au] at hv⊢;obtain⟨vs,rfl,u,us,rfl,h1,u',v8,rfl,h2,rfl⟩:=hv;exact⟨_,rfl,u,_,rfl,h G u h1,u',_,rfl,k G u' h2,rfl⟩
theorem AV.uu{a b c d e f:AV}(h:a.aB d)(k:b.aB e)(l:c.aB f):(AV.eo [a,b,c]).aB (.eo [d,e,f]):=by
  intro G v hv;simp only[av,au] at hv⊢;obtain⟨vs,rfl,u,us,rfl,h1,u',v8,rfl,h2,u'',xgy,rfl,h3,rfl⟩:=hv;exact⟨_,rfl,u,_,rfl,h G u h1,u',_,rfl,k G u' h2,u'',_,rfl,l G u'' h3,rfl⟩
end Go.AM
namespace Go.AM
open Go Go.RowKit
variable{P:Program}{Γ:Nat→List AV}{s:AS}
theorem aa{f:FuncId}{fn:Func}{c:Code}{rs:Array ResultVar}{N:Nat}{args:List AV}{b6:AV→AS→Prop}{s:AS}(hf:P.funcs[f]? =some fn)(hb:fn.body=some c)(hN:fn.ntmps=N)(FY:fn.results=rs)(hn:args.length≤N)
    (h:cp P Γ N c (cf P rs.toList b6) (bC args) s):aj P Γ f args s b6:=by
  subst hN FY;exact IL hf hb hn h
theorem AS.gK(s:AS)(o:Nat)(cs:List AV):(s.set o cs).aw=aH s.aw o (some cs):=rfl
theorem AS.AL(s:AS)(t e:Nat):(s.bw t e).aw=s.aw:=rfl
theorem AS.qi(s:AS)(o:Nat):(s.drop o).aw=aH s.aw o none:=rfl
theorem AS.Ht(s:AS)(o:Nat)(cs:List AV):(s.set o cs).own=s.own:=rfl
theorem AS.vr(s:AS)(t e:Nat):(s.bw t e).own=aH s.own t (some e):=rfl
theorem AS.DE(s:AS)(o:Nat):(s.drop o).own=s.own:=rfl
theorem AS.set_set(s:AS)(o:Nat)(a b:List AV):(s.set o a).set o b=s.set o b:=by
  simp only[AS.set,AS.mk.injEq,and_true];funext i;simp only[aH];split <;>rfl
def sI(fl:List Nat):Nat→List Oper→List (Oper×Bool)
  |_,[]=>[]
  |k,o::L=>(o,fl.contains k)::sI fl (k+1) L
theorem AO(fl:List Nat):∀(L:List Oper)(k i:Nat),(sI fl k L)[i]? =(L[i]?).map fun o=>(o,fl.contains (k+i))
  |[],k,i=>by simp[sI]
  |o::L,k,0=>by simp[sI]
  |o::L,k,i+1=>by
    simp only[sI,List.getElem?_cons_succ];rw[AO fl L (k+1) i,show k+1+i=k+(i+1) from by omega]
theorem AP(ops:Array Oper)(fl:List Nat):marked ops fl=sI fl 0 ops.toList:=by
  apply List.ext_getElem?;intro i;rw[AO];simp only[marked,List.getElem?_map,Nat.zero_add];by_cases hi:i<ops.size
  · simp[hi,ry]
  · simp[hi]
section
variable{N:Nat}{E:Env}{Q:Exit→Env→AS→Prop}
theorem awp_seq_k{x y:Code}(h:∀K:Env→AS→Prop,(∀E s,cp P Γ N y Q E s→K E s)→cp P Γ N x (az K Q) E s):cp P Γ N (.seq x y) Q E s:=
  kQ (h _ fun _ _ h=>h)
theorem xB{id:Nat}{ops:Array Oper}{y:Code}(h:∀K:Env→AS→Prop,(∀E s,cp P Γ N y Q E s→K E s)→AX P Γ N ops ops.toList K E s):cp P Γ N (.seq (.region id ops false) y) Q E s:=
  kQ (nO (h _ fun _ _ h=>h))
theorem xC{id:Nat}{ops:Array Oper}(h:∀K:Env→AS→Prop,(∀E s,Q .normal E s→K E s)→AX P Γ N ops ops.toList K E s):cp P Γ N (.region id ops false) Q E s:=
  nO (h _ fun _ _ h=>h)
theorem awp_cond_k{c:Operand}{x y:Code}(h:∀X Y:Prop,(cp P Γ N x Q E s→X)→(cp P Γ N y Q E s→Y)→match aO Γ E c with |.v (.bool t)=>(t=true→X)∧(t=false→Y)|_=>False):cp P Γ N (.cond c x y) Q E s:=by
  have h1:=h _ _ id id;split at h1
  · rename_i t hc;exact xx hc h1.1 h1.2
  · exact h1.elim
theorem BW(hm:P.follows .mixedOrders=true)(fl:List Nat){id:Nat}{ops:Array Oper}{y:Code}(iN:ru ops fl=true)(h:∀K:Env→AS→Prop,(∀E s,cp P Γ N y Q E s→K E s)→pz P Γ N ops (sI fl 0 ops.toList) K E s):
    cp P Γ N (.seq (.region id ops true) y) Q E s:=
  kQ (oC hm fl iN (by rw[AP];exact h _ fun _ _ h=>h))
theorem BX(hm:P.follows .mixedOrders=true)(fl:List Nat){id:Nat}{ops:Array Oper}(iN:ru ops fl=true)(h:∀K:Env→AS→Prop,(∀E s,Q .normal E s→K E s)→pz P Γ N ops (sI fl 0 ops.toList) K E s):
    cp P Γ N (.region id ops true) Q E s:=
  oC hm fl iN (by rw[AP];exact h _ fun _ _ h=>h)
end
end Go.AM
namespace Go.AM
open Go Go.RowKit
section
variable{k:IntKind}
theorem kt(h:k.signed=false)(x:Int):k.wrap x=x%(2^k.bits:Nat):=by
  cases k<;>simp[IntKind.signed] at h<;>simp[IntKind.wrap,IntKind.bits,IntKind.signed]<;>omega
theorem uv(h:k.signed=false)(a b:Nat):ec k a b=((a+b)%2^k.bits:Nat):=by
  rw[ec,kt h];push_cast;rfl
theorem BZ(h:k.signed=false)(a b:Nat):gO k a b=((a*b)%2^k.bits:Nat):=by
  rw[gO,kt h];push_cast;rfl
theorem AQ(h:k.signed=false)(a b:Nat)(hb:b≤a)(ha:a<2^k.bits):di k a b=((a-b:Nat):Int):=by
  rw[di,kt h,show(a:Int)-b=((a-b:Nat):Int) from by omega,←Int.natCast_emod,Nat.mod_eq_of_lt (by omega)]
theorem xD(a:Nat)(n:Nat):BitVec.ofInt n (a:Int)=BitVec.ofNat n a:=by simp
theorem rB(h:k.signed=false)(a b:Nat)(ha:a<2^k.bits)(hb:b<2^k.bits):mg k a b=((a &&& b:Nat):Int):=by
  rw[mg,kt h,xD,xD,BitVec.toNat_and,BitVec.toNat_ofNat,BitVec.toNat_ofNat,Nat.mod_eq_of_lt ha,Nat.mod_eq_of_lt hb,←Int.natCast_emod,Nat.mod_eq_of_lt (Nat.lt_of_le_of_lt Nat.and_le_left ha)]
theorem AR(h:k.signed=false)(a b:Nat)(ha:a<2^k.bits)(hb:b<2^k.bits):FJ k a b=((a ||| b:Nat):Int):=by
  rw[FJ,kt h,xD,xD,BitVec.toNat_or,BitVec.toNat_ofNat,BitVec.toNat_ofNat,Nat.mod_eq_of_lt ha,Nat.mod_eq_of_lt hb,←Int.natCast_emod,Nat.mod_eq_of_lt (Nat.or_lt_two_pow ha hb)]
theorem FZ(h:k.signed=false)(a b:Nat)(ha:a<2^k.bits)(hb:b<2^k.bits):Dm k a b=((a ^^^ b:Nat):Int):=by
  rw[Dm,kt h,xD,xD,BitVec.toNat_xor,BitVec.toNat_ofNat,BitVec.toNat_ofNat,Nat.mod_eq_of_lt ha,Nat.mod_eq_of_lt hb,←Int.natCast_emod,Nat.mod_eq_of_lt (Nat.xor_lt_two_pow ha hb)]
theorem rC(h:k.signed=false)(a c:Nat):kj k a c=((a*2^(min c k.bits))%2^k.bits:Nat):=by
  rw[kj,kt h];push_cast;simp
theorem hJ(a c:Nat):eJ k a c=((a/2^(min c k.bits):Nat):Int):=by
  rw[eJ,Int.fdiv_eq_ediv_of_nonneg _ (Int.le_of_lt (Int.pow_pos (by decide)))];push_cast;simp
theorem gE(h:k.signed=false)(a:Nat):cG k a=((a%2^k.bits:Nat):Int):=by
  rw[cG,kt h];push_cast;rfl
theorem RO(h:k.signed=false)(a:Nat)(ha:a<2^k.bits):J1 k a=((2^k.bits-1-a:Nat):Int):=by
  have e:BitVec.ofInt k.bits (if k.signed=true then -1 else k.max)=BitVec.allOnes k.bits:=by
    cases k<;>simp[IntKind.signed] at h<;>rfl
  have :(BitVec.allOnes k.bits ^^^ BitVec.ofNat k.bits a).toNat=2^k.bits-1-a:=by
    rw[BitVec.allOnes_xor,BitVec.toNat_not,BitVec.toNat_ofNat,Nat.mod_eq_of_lt ha]
  rw[J1,kt h,e,xD,this,←Int.natCast_emod,Nat.mod_eq_of_lt (by omega)]
theorem Ke(h:k.signed=false)(a b:Nat)(ha:a<2^k.bits):kK k a b=((a/b:Nat):Int):=by
  rw[kK,kt h,show(a:Int).tdiv b=((a/b:Nat):Int) from(Int.ofNat_tdiv a b).symm,←Int.natCast_emod,Nat.mod_eq_of_lt (Nat.lt_of_le_of_lt (Nat.div_le_self a b) ha)]
theorem lH(a b:Nat):iG a b=((a%b:Nat):Int):=by rw[iG];exact(Int.ofNat_tmod a b).symm
theorem eL{a b:Int}(h: -9223372036854775808≤a+b∧a+b≤9223372036854775807):ec .i64 a b=a+b:=IntWalk.i64_in _ h
theorem bR{a b:Int}(h: -9223372036854775808≤a-b∧a-b≤9223372036854775807):di .i64 a b=a-b:=IntWalk.i64_in _ h
theorem dI{a b:Int}(h: -9223372036854775808≤a*b∧a*b≤9223372036854775807):gO .i64 a b=a*b:=IntWalk.i64_in _ h
theorem AU{a:Int}(h: -9223372036854775808≤a∧a≤9223372036854775807):cG .i64 a=a:=IntWalk.i64_in _ h
end
variable{P:Program}
def G0(w:World):Gh:={ro:=fun b j=>w.cell? ⟨b,j,none⟩,obj:=fun _=>none,tok:=fun _ _=>none,no:=0,nt:=0,B:=w.heap.size,w0:=w,df:=[]}
def s0:AS:=⟨fun _=>none,fun _=>none⟩
theorem aP.start(Γ:Nat→List AV)(w:World)(hg:∀g,∃vs,au (G0 w) (Γ g) vs∧gp (G0 w) g 0 vs):aP Γ (G0 w) s0 w where
  ro _ _ _ h:=h
  aw o cs h:=by simp[s0] at h
  cV o b h:=by simp[G0] at h
  inj o o' b h:=by simp[G0] at h
  own t e h:=by simp[s0] at h
  cF t e t' e' b st en wU wW h:=by simp[s0] at h
  bS t e h:=by simp[s0] at h
  cv o _:=rfl
  b7 t _ _:=rfl
  below:=Below.refl _ _
  others:=dm.refl _
  base:=Nat.le_refl _
  gN:=hg
  soft b c T lo hi hb hc:=by
    rcases hb with⟨o,h⟩|⟨t,e,r,h,_⟩
    · simp[G0] at h
    · simp[s0] at h
theorem aj.start{Γ:Nat→List AV}{f:FuncId}{args:List AV}{b6:AV→AS→Prop}(h:aj P Γ f args s0 b6){w:World}{vs:List Value}(hv:au (G0 w) args vs)
    (hg:∀g,∃vs,au (G0 w) (Γ g) vs∧gp (G0 w) g 0 vs) (hp:∀r s',b6 r s'→r=.v (.bool true)):
    Calls P f vs.toArray w fun e w'=>e=.returned (.bool true)∧Below w.heap.size w w':=by
  refine(h (G0 w) w vs (aP.start Γ w hg) hv).mono ?_;rintro e w' ⟨G',r,v,s',rfl,h1,h2,h3,h4⟩;have hr:=hp r s' h4;subst hr;simp only[av] at h3;subst h3;refine⟨rfl,?_⟩;have hb:=h2.below;rw[h1.B,h1.w0] at hb;exact hb
def Γ0:Nat→List AV:=fun _=>[]
end Go.AM
namespace Go.AM
open Go Go.RowKit
def be:Nat→Nat→List UInt8
  |0,_=>[]
  |k+1,n=>UInt8.ofNat (n/2^(8*k))::be k n
@[simp] theorem cC(k n:Nat):(be k n).length=k:=by
  induction k with
  |zero=>rfl
  |succ k ih=>simp[be,ih]
def bL:AV:=.v (.slice none 0 0)
def al(l:List UInt8)(sp:Sp):AV:=.sl 1 l.length (l.map ai) sp
def Buf(s0 s:AS)(x:AV)(l:List UInt8):Prop:=
  (x=bL∧l=[])∨∃t e,x=al l (.own t e)∧s.own t=some e∧s0.own t=none
structure wZ(s0 s:AS)(p:Nat)(l:List UInt8)(bad:Bool):Prop where
  le:s0.le s
  new:s0.aw p=none
  obj:∃x,s.aw p=some [x,.v (.bool bad)]∧Buf s0 s x l
theorem AS.ae(s:AS)(o:Nat)(cs:List AV):(s.set o cs).aw o=some cs:=by simp[AS.set]
theorem AS.jf(s:AS)(t e:Nat):(s.bw t e).own t=some e:=by simp[AS.bw]
theorem wZ.B0{s0 s:AS}{p:Nat}{l:List UInt8}{bad:Bool}(h:wZ s0 s p l bad){t e:Nat}{m:List UInt8}(b:Bool)(ht:s0.own t=none):wZ s0 ((s.bw t e).set p [al m (.own t e),.v (.bool b)]) p m b:=
  ⟨AS.aE (AS.bj h.le ht e) h.new _,h.new,_,AS.ae _ _ _,.inr ⟨t,e,rfl,by simp[AS.set,AS.bw],ht⟩⟩
theorem wZ.DG{s0 s:AS}{p:Nat}{l:List UInt8}{bad:Bool}(h:wZ s0 s p l bad){t:Nat}(ht:s.own t=none):s0.own t=none:=by
  cases h0:s0.own t with
  |none=>rfl
  |some e=>rw[h.le.own t e h0] at ht;cases ht
theorem pB(l:List UInt8):(l.map ai).all AV.one=true:=by simp
theorem sJ(n:Nat):ai (UInt8.ofNat n)=.v (.int .u8 (cG .u8 (n:Int))):=by
  rw[gE rfl];simp[ai,IntKind.bits]
theorem N0(n i:Nat)(hi:i<8):AV.v (.int .u8 (cG .u8 (eJ .u64 (n:Int) (8*(i:Int)))))=ai (UInt8.ofNat (n/2^(8*i))):=by
  have e:(8*(i:Int))=((8*i:Nat):Int):=(by omega);rw[e,hJ,sJ];have :min (8*i) IntKind.u64.bits=8*i:=(by simp[IntKind.bits];omega);rw[this]
theorem wZ.one{s0 s:AS}{p:Nat}{bad:Bool}(h:wZ s0 s p [] bad){t:Nat}(ht:s.own t=none)(b:UInt8):wZ s0 ((s.bw t 0).set p [.sl 1 1 [ai b] (.own t 0),.v (.bool false)]) p [b] false:=
  h.B0 (m:=[b]) false (h.DG ht)
theorem wZ.more{s0 s:AS}{p:Nat}{l:List UInt8}{bad:Bool}(h:wZ s0 s p l bad){t e:Nat}(ht:s0.own t=none)(m:List UInt8){n:Nat}(hn:n=l.length+m.length){cs:List AV}(hc:cs=l.map ai++m.map ai):
    wZ s0 ((s.bw t e).set p [.sl 1 n cs (.own t e),.v (.bool false)]) p (l++m) false:=by
  subst hn hc;have:=h.B0 (t:=t) (e:=e) (m:=l++m) false ht;simpa[al] using this
end Go.AM
namespace Go.AM
open Go Go.RowKit
variable{P:Program}{Γ:Nat→List AV}{N:Nat}{ops:Array Oper}{K:Env→AS→Prop}{E:Env}{s:AS}
def RP:Op→Bool
  |.call {callee:=.value _,.. }=>true
  |_=>false
theorem Qr:∃f:Program→(Nat→List AV)→Nat→Array Oper→List Oper→(Env→AS→Prop)→Env→AS→Prop,f=AX:=⟨_,rfl⟩
noncomputable def AY:Program→(Nat→List AV)→Nat→Array Oper→List Oper→(Env→AS→Prop)→Env→AS→Prop:=Classical.choose Qr
theorem ay:AY=AX:=Classical.choose_spec Qr
def uw(P:Program)(Γ:Nat→List AV)(N:Nat)(ops:Array Oper)(k:FuncId)(as:List AV)(dst:Option Tmp)(rest:List Oper)(K:Env→AS→Prop)(E:Env)(s:AS):Prop:=
  aj P Γ k as s fun r s'=>AY P Γ N ops rest K (bx E dst r) s'
def xE(P:Program)(Γ:Nat→List AV)(N:Nat)(ops:Array Oper)(fv:AV)(as:List AV)(dst:Option Tmp)(rest:List Oper)(K:Env→AS→Prop)(E:Env)(s:AS):Prop:=
  match fv with
  |.v (.func (.func k) first cd)=>first.isEmpty=true∧cd.isEmpty=true∧ag P k=true∧uw P Γ N ops k as dst rest K E s
  |.qx k cd=>ag P k=true∧uw P Γ N ops k (as++cd) dst rest K E s
  |_=>False
theorem xF(k:FuncId)(as:List AV)(dst:Option Tmp)(rest:List Oper):xE P Γ N ops (.v (.func (.func k) #[] #[])) as dst rest K E s=(ag P k=true∧uw P Γ N ops k as dst rest K E s):=by
  simp[xE]
theorem xG(k:FuncId)(cd as:List AV)(dst:Option Tmp)(rest:List Oper):xE P Γ N ops (.qx k cd) as dst rest K E s=(ag P k=true∧uw P Γ N ops k (as++cd) dst rest K E s):=rfl
theorem ad{k:FuncId}{as:List AV}{dst:Option Tmp}{rest:List Oper}{Q:AV→AS→Prop}(h:aj P Γ k as s Q)(hk:∀r s',Q r s'→AY P Γ N ops rest K (bx E dst r) s'):uw P Γ N ops k as dst rest K E s:=h.mono hk
theorem F0:AY P Γ N ops [] K E s=K E s:=by rw[ay];rfl
theorem fp{dst:Option Tmp}{op:Op}{ty:TypeId}{pos:String}{after:Array Edge}{rest:List Oper}(_hc:RP op=false):
    AY P Γ N ops ({dst:=dst,op:=op,type:=ty,pos:=pos,after:=after,guard:=none}::rest) K E s=((∀d,dst=some d→d<N)∧b8 P Γ (aO Γ E) s (fun r s'=>AY P Γ N ops rest K (bx E dst r) s') op):=by
  simp only[ay,AX]
theorem xH{o:Oper}{rest:List Oper}{j d:Nat}{want t:Bool}(hg:o.guard=some (j,want))(hj:nN ops j=some d)(hE:E d=.v (.bool t)):
    AY P Γ N ops (o::rest) K E s=if t=want then AY P Γ N ops ({o with guard:=none}::rest) K E s else((∀d,o.dst=some d→d<N)∧AY P Γ N ops rest K (bx E o.dst (.v undef)) s):=by
  simp only[ay,AX,hg,hj,hE];split <;>rfl
theorem Hu{dst:Option Tmp}(x:Operand){ty:TypeId}{pos:String}{after:Array Edge}{rest:List Oper}:AY P Γ N ops ({dst:=dst,op:=(.move x),type:=ty,pos:=pos,after:=after,guard:=none}::rest) K E s=((∀d,dst=some d→d<N)∧b8 P Γ (aO Γ E) s (fun r s'=>AY P Γ N ops rest K (bx E dst r) s') (.move x)):=fp rfl
theorem AW{dst:Option Tmp}(x:Operand){ty:TypeId}{pos:String}{after:Array Edge}{rest:List Oper}:AY P Γ N ops ({dst:=dst,op:=(.assign x),type:=ty,pos:=pos,after:=after,guard:=none}::rest) K E s=((∀d,dst=some d→d<N)∧b8 P Γ (aO Γ E) s (fun r s'=>AY P Γ N ops rest K (bx E dst r) s') (.assign x)):=fp rfl
theorem Hv{dst:Option Tmp}(a b c:Operand){ty:TypeId}{pos:String}{after:Array Edge}{rest:List Oper}:AY P Γ N ops ({dst:=dst,op:=(.pick a b c),type:=ty,pos:=pos,after:=after,guard:=none}::rest) K E s=((∀d,dst=some d→d<N)∧b8 P Γ (aO Γ E) s (fun r s'=>AY P Γ N ops rest K (bx E dst r) s') (.pick a b c)):=fp rfl
theorem DH{dst:Option Tmp}(t:TypeId){ty:TypeId}{pos:String}{after:Array Edge}{rest:List Oper}:AY P Γ N ops ({dst:=dst,op:=(.alloc t),type:=ty,pos:=pos,after:=after,guard:=none}::rest) K E s=((∀d,dst=some d→d<N)∧b8 P Γ (aO Γ E) s (fun r s'=>AY P Γ N ops rest K (bx E dst r) s') (.alloc t)):=fp rfl
theorem Kf{dst:Option Tmp}(t:TypeId)(x:Operand){ty:TypeId}{pos:String}{after:Array Edge}{rest:List Oper}:AY P Γ N ops ({dst:=dst,op:=(.box t x),type:=ty,pos:=pos,after:=after,guard:=none}::rest) K E s=((∀d,dst=some d→d<N)∧b8 P Γ (aO Γ E) s (fun r s'=>AY P Γ N ops rest K (bx E dst r) s') (.box t x)):=fp rfl
theorem DI{dst:Option Tmp}(t:TypeId)(ps:Array (Nat×Operand)){ty:TypeId}{pos:String}{after:Array Edge}{rest:List Oper}:AY P Γ N ops ({dst:=dst,op:=(.build t ps),type:=ty,pos:=pos,after:=after,guard:=none}::rest) K E s=((∀d,dst=some d→d<N)∧b8 P Γ (aO Γ E) s (fun r s'=>AY P Γ N ops rest K (bx E dst r) s') (.build t ps)):=fp rfl
theorem qJ{dst:Option Tmp}(t:TypeId)(n:Nat)(ps:Array (Nat×Operand)){ty:TypeId}{pos:String}{after:Array Edge}{rest:List Oper}:AY P Γ N ops ({dst:=dst,op:=(.buildSlice t n ps),type:=ty,pos:=pos,after:=after,guard:=none}::rest) K E s=((∀d,dst=some d→d<N)∧b8 P Γ (aO Γ E) s (fun r s'=>AY P Γ N ops rest K (bx E dst r) s') (.buildSlice t n ps)):=fp rfl
theorem Hw{dst:Option Tmp}(t:TypeId)(x:Operand){ty:TypeId}{pos:String}{after:Array Edge}{rest:List Oper}:AY P Γ N ops ({dst:=dst,op:=(.load t x),type:=ty,pos:=pos,after:=after,guard:=none}::rest) K E s=((∀d,dst=some d→d<N)∧b8 P Γ (aO Γ E) s (fun r s'=>AY P Γ N ops rest K (bx E dst r) s') (.load t x)):=fp rfl
theorem DJ{dst:Option Tmp}(t:TypeId)(x y:Operand){ty:TypeId}{pos:String}{after:Array Edge}{rest:List Oper}:AY P Γ N ops ({dst:=dst,op:=(.store t x y),type:=ty,pos:=pos,after:=after,guard:=none}::rest) K E s=((∀d,dst=some d→d<N)∧b8 P Γ (aO Γ E) s (fun r s'=>AY P Γ N ops rest K (bx E dst r) s') (.store t x y)):=fp rfl
theorem vu{dst:Option Tmp}(x:Operand){ty:TypeId}{pos:String}{after:Array Edge}{rest:List Oper}:AY P Γ N ops ({dst:=dst,op:=(.nilCheck x),type:=ty,pos:=pos,after:=after,guard:=none}::rest) K E s=((∀d,dst=some d→d<N)∧b8 P Γ (aO Γ E) s (fun r s'=>AY P Γ N ops rest K (bx E dst r) s') (.nilCheck x)):=fp rfl
theorem DK{dst:Option Tmp}(o:BinOp)(t:TypeId)(x y:Operand)(u:TypeId){ty:TypeId}{pos:String}{after:Array Edge}{rest:List Oper}:AY P Γ N ops ({dst:=dst,op:=(.binOp o t x y u),type:=ty,pos:=pos,after:=after,guard:=none}::rest) K E s=((∀d,dst=some d→d<N)∧b8 P Γ (aO Γ E) s (fun r s'=>AY P Γ N ops rest K (bx E dst r) s') (.binOp o t x y u)):=fp rfl
theorem Hy{dst:Option Tmp}(o:UnOp)(t:TypeId)(x:Operand){ty:TypeId}{pos:String}{after:Array Edge}{rest:List Oper}:AY P Γ N ops ({dst:=dst,op:=(.unOp o t x),type:=ty,pos:=pos,after:=after,guard:=none}::rest) K E s=((∀d,dst=some d→d<N)∧b8 P Γ (aO Γ E) s (fun r s'=>AY P Γ N ops rest K (bx E dst r) s') (.unOp o t x)):=fp rfl
theorem xI{dst:Option Tmp}(t u:TypeId)(x:Operand){ty:TypeId}{pos:String}{after:Array Edge}{rest:List Oper}:AY P Γ N ops ({dst:=dst,op:=(.convert t u x),type:=ty,pos:=pos,after:=after,guard:=none}::rest) K E s=((∀d,dst=some d→d<N)∧b8 P Γ (aO Γ E) s (fun r s'=>AY P Γ N ops rest K (bx E dst r) s') (.convert t u x)):=fp rfl
theorem m8{dst:Option Tmp}(t:TypeId)(x:Operand){ty:TypeId}{pos:String}{after:Array Edge}{rest:List Oper}:AY P Γ N ops ({dst:=dst,op:=(.makeInterface t x),type:=ty,pos:=pos,after:=after,guard:=none}::rest) K E s=((∀d,dst=some d→d<N)∧b8 P Γ (aO Γ E) s (fun r s'=>AY P Γ N ops rest K (bx E dst r) s') (.makeInterface t x)):=fp rfl
theorem vv{dst:Option Tmp}(f:Fn)(a b:Array Operand){ty:TypeId}{pos:String}{after:Array Edge}{rest:List Oper}:AY P Γ N ops ({dst:=dst,op:=(.makeFunc f a b),type:=ty,pos:=pos,after:=after,guard:=none}::rest) K E s=((∀d,dst=some d→d<N)∧b8 P Γ (aO Γ E) s (fun r s'=>AY P Γ N ops rest K (bx E dst r) s') (.makeFunc f a b)):=fp rfl
theorem sK{dst:Option Tmp}(t:TypeId)(x y:Operand){ty:TypeId}{pos:String}{after:Array Edge}{rest:List Oper}:AY P Γ N ops ({dst:=dst,op:=(.makeSlice t x y),type:=ty,pos:=pos,after:=after,guard:=none}::rest) K E s=((∀d,dst=some d→d<N)∧b8 P Γ (aO Γ E) s (fun r s'=>AY P Γ N ops rest K (bx E dst r) s') (.makeSlice t x y)):=fp rfl
theorem DL{dst:Option Tmp}(t:TypeId)(x:Operand)(a b c:Option Operand){ty:TypeId}{pos:String}{after:Array Edge}{rest:List Oper}:AY P Γ N ops ({dst:=dst,op:=(.slice t x a b c),type:=ty,pos:=pos,after:=after,guard:=none}::rest) K E s=((∀d,dst=some d→d<N)∧b8 P Γ (aO Γ E) s (fun r s'=>AY P Γ N ops rest K (bx E dst r) s') (.slice t x a b c)):=fp rfl
theorem sL{dst:Option Tmp}(t:TypeId)(x:Operand)(i:Nat){ty:TypeId}{pos:String}{after:Array Edge}{rest:List Oper}:AY P Γ N ops ({dst:=dst,op:=(.fieldAddr t x i),type:=ty,pos:=pos,after:=after,guard:=none}::rest) K E s=((∀d,dst=some d→d<N)∧b8 P Γ (aO Γ E) s (fun r s'=>AY P Γ N ops rest K (bx E dst r) s') (.fieldAddr t x i)):=fp rfl
theorem DP{dst:Option Tmp}(t:TypeId)(x:Operand)(i:Nat){ty:TypeId}{pos:String}{after:Array Edge}{rest:List Oper}:AY P Γ N ops ({dst:=dst,op:=(.field t x i),type:=ty,pos:=pos,after:=after,guard:=none}::rest) K E s=((∀d,dst=some d→d<N)∧b8 P Γ (aO Γ E) s (fun r s'=>AY P Γ N ops rest K (bx E dst r) s') (.field t x i)):=fp rfl
theorem sM{dst:Option Tmp}(t:TypeId)(x y:Operand){ty:TypeId}{pos:String}{after:Array Edge}{rest:List Oper}:AY P Γ N ops ({dst:=dst,op:=(.indexAddr t x y),type:=ty,pos:=pos,after:=after,guard:=none}::rest) K E s=((∀d,dst=some d→d<N)∧b8 P Γ (aO Γ E) s (fun r s'=>AY P Γ N ops rest K (bx E dst r) s') (.indexAddr t x y)):=fp rfl
theorem DQ{dst:Option Tmp}(t:TypeId)(x y:Operand){ty:TypeId}{pos:String}{after:Array Edge}{rest:List Oper}:AY P Γ N ops ({dst:=dst,op:=(.index t x y),type:=ty,pos:=pos,after:=after,guard:=none}::rest) K E s=((∀d,dst=some d→d<N)∧b8 P Γ (aO Γ E) s (fun r s'=>AY P Γ N ops rest K (bx E dst r) s') (.index t x y)):=fp rfl
theorem xJ{dst:Option Tmp}(x:Operand)(i:Nat){ty:TypeId}{pos:String}{after:Array Edge}{rest:List Oper}:AY P Γ N ops ({dst:=dst,op:=(.extract x i),type:=ty,pos:=pos,after:=after,guard:=none}::rest) K E s=((∀d,dst=some d→d<N)∧b8 P Γ (aO Γ E) s (fun r s'=>AY P Γ N ops rest K (bx E dst r) s') (.extract x i)):=fp rfl
theorem xK{dst:Option Tmp}(b:Builtin)(a:Array Operand)(t:Array TypeId){ty:TypeId}{pos:String}{after:Array Edge}{rest:List Oper}:AY P Γ N ops ({dst:=dst,op:=(.call {callee:=.builtin b,args:=a,argTypes:=t}),type:=ty,pos:=pos,after:=after,guard:=none}::rest) K E s=((∀d,dst=some d→d<N)∧b8 P Γ (aO Γ E) s (fun r s'=>AY P Γ N ops rest K (bx E dst r) s') (.call {callee:=.builtin b,args:=a,argTypes:=t})):=fp rfl
theorem Hz{dst:Option Tmp}{f:Operand}{args:Array Operand}{argTypes:Array TypeId}{ty:TypeId}{pos:String}{after:Array Edge}{rest:List Oper}:
    AY P Γ N ops ({dst:=dst,op:=.call {callee:=.value f,args:=args,argTypes:=argTypes},type:=ty,pos:=pos,after:=after,guard:=none}::rest) K E s=
      ((∀d,dst=some d→d<N)∧xE P Γ N ops (aO Γ E f) (args.toList.map (aO Γ E)) dst rest K E s):=by
  simp only[ay,AX,b8,cH,dj,xE,uw];rfl
theorem DR{ρ:Operand→AV}{K:AV→AS→Prop}{op:Op}:b8 P Γ ρ s K op=match cH P ρ op with |some r=>K r s|none=>dj P Γ ρ s K op:=rfl
section
variable{ρ:Operand→AV}{K:AV→AS→Prop}
theorem nR{T:TypeId}{x:Operand}:dj P Γ ρ s K (.load T x)=(match ρ x with
    |.ptr o off=>(match s.aw o with
      |some cs=>P.cellsOf T≠0∧(match oA P T (cs.drop off) with |some v=>K v s|none=>False)
      |none=>False)
    |_=>False):=rfl
theorem qK{T:TypeId}{a x:Operand}:dj P Γ ρ s K (.store T a x)=(match ρ a with
    |.ptr o off=>(match s.aw o with
      |some cs=>P.cellsOf T≠0∧(ρ x).cells.length=P.cellsOf T∧off+(ρ x).cells.length≤cs.length∧(ρ x).cells.all AV.one=true∧K (.v undef) (s.set o (bn cs off (ρ x).cells))
      |none=>False)
    |_=>False):=rfl
theorem qL{T:TypeId}:dj P Γ ρ s K (.alloc T)=(match bq P T with |some z=>∀o,s.aw o=none→K (.ptr o 0) (s.set o z)|none=>False):=rfl
theorem vw{T:TypeId}{x:Operand}:dj P Γ ρ s K (.box T x)=∀o,s.aw o=none→K (.ptr o 0) (s.set o (ρ x).cells):=rfl
theorem mC{T:TypeId}{l c:Operand}:dj P Γ ρ s K (.makeSlice T l c)=(match P.underlying T,ρ l,ρ c with
    |some (.slice e),.v (.int _ n),.v (.int _ m)=>
      (match bq P e with
      |some z=>0≤n∧m=n∧P.bytesOf e*n≤2^46∧n≤2^46∧P.cellsOf e≠0∧z.length=P.cellsOf e∧
          ∀o,s.aw o=none→K (.gR o 0 (P.cellsOf e) n.toNat n.toNat) (s.set o (oV (n.toNat*P.cellsOf e) z))
      |none=>False)
    |_,_,_=>False):=rfl
theorem pC{x y:Operand}{T xT:TypeId}:dj P Γ ρ s K (.call {callee:=.builtin .append,args:=#[x,y],argTypes:=#[T,xT]})=(match P.underlying T with
      |some (.slice e)=>
        (match bq P e,gX (P.cellsOf e) s (ρ y) with
        |some z,some (m,ds)=>kH P (some xT)=true∧P.cellsOf e≠0∧z.length=P.cellsOf e∧fI P e (ρ x) m ds s K
        |_,_=>Dt P e xT (ρ x) (ρ y) s K)
      |_=>False):=rfl
theorem sN{x y:Operand}{T xT:TypeId}:dj P Γ ρ s K (.call {callee:=.builtin .copy,args:=#[x,y],argTypes:=#[T,xT]})=(match P.underlying T with
      |some (.slice e)=>
        (match gX (P.cellsOf e) s (ρ y),ρ x with
        |some (m,ds),.gR o off _ n _=>
          (match s.aw o with
          |some cs=>P.cellsOf e≠0∧ds.all AV.one=true∧off+min m n*P.cellsOf e≤cs.length∧
              K (.v (.int .i64 ((min m n:Nat):Int))) (s.set o (bn cs off (ds.take (min m n*P.cellsOf e))))
          |none=>False)
        |_,_=>False)
      |_=>False):=rfl
theorem pD{e:TypeId}{m:Nat}{ds:List AV}:fI P e (.v (.slice none 0 0)) m ds s K=if m=0 then K (.v (.slice none 0 0)) s
    else m*P.bytesOf e≤2^46∧m≤2^46∧∀t,s.own t=none→K (.sl (P.cellsOf e) m ds (.own t 0)) (s.bw t 0):=rfl
theorem sO{e:TypeId}{sz n m:Nat}{cs ds:List AV}:fI P e (.sl sz n cs .full) m ds s K=if m=0 then K (.sl sz n cs .full) s
    else sz=P.cellsOf e∧(n+m)*P.bytesOf e≤2^46∧n+m≤2^46∧ds.all AV.one=true∧∀t,s.own t=none→K (.sl sz (n+m) (cs++ds) (.own t 0)) (s.bw t 0):=rfl
theorem vx{e:TypeId}{sz n m:Nat}{cs ds:List AV}:fI P e (.sl sz n cs .new) m ds s K=if m=0 then K (.sl sz n cs .new) s
    else sz=P.cellsOf e∧(n+m)*P.bytesOf e≤2^46∧n+m≤2^46∧ds.all AV.one=true∧∀t,s.own t=none→K (.sl sz (n+m) (cs++ds) (.own t 0)) (s.bw t 0):=rfl
theorem pE{e:TypeId}{sz n m t g:Nat}{cs ds:List AV}:fI P e (.sl sz n cs (.own t g)) m ds s K=if m=0 then K (.sl sz n cs (.own t g)) s
    else sz=P.cellsOf e∧(n+m)*P.bytesOf e≤2^46∧n+m≤2^46∧ds.all AV.one=true∧s.own t=some g∧K (.sl sz (n+m) (cs++ds) (.own t (g+1))) (s.bw t (g+1)):=rfl
end
theorem DS{dst:Option Tmp}{op:Op}{ty:TypeId}{pos:String}{after:Array Edge}{j:Nat}{want:Bool}{rest:List Oper}:
    AY P Γ N ops ({dst:=dst,op:=op,type:=ty,pos:=pos,after:=after,guard:=some (j,want)}::rest) K E s=
      (match nN ops j with
      |none=>(∀d,dst=some d→d<N)∧False
      |some d=>match E d with
        |.v (.bool t)=>if t=want then AY P Γ N ops ({dst:=dst,op:=op,type:=ty,pos:=pos,after:=after,guard:=none}::rest) K E s else((∀d,dst=some d→d<N)∧AY P Γ N ops rest K (bx E dst (.v undef)) s)
        |.v (.tuple _)=>(∀d,dst=some d→d<N)∧AY P Γ N ops rest K (bx E dst (.v undef)) s
        |_=>(∀d,dst=some d→d<N)∧False):=by
  cases hj:nN ops j with
  |none=>simp only[ay,AX,hj]
  |some d=>
    simp only;split
    · rename_i t hE;exact xH (o:={dst:=dst,op:=op,type:=ty,pos:=pos,after:=after,guard:=some (j,want)}) rfl hj hE
    · rename_i c hE;simp only[ay,AX,hj,hE]
    · rename_i dK;simp only[ay,AX,hj]
theorem xL:et []=.eo []:=rfl
theorem xM(a:AV):et [a]=a:=rfl
theorem xN(a b:AV):et [a,b]=.eo [a,b]:=rfl
theorem sP(a b c:AV):et [a,b,c]=.eo [a,b,c]:=rfl
theorem vy(a b c d:AV):et [a,b,c,d]=.eo [a,b,c,d]:=rfl
theorem vz(a b c d e:AV):et [a,b,c,d,e]=.eo [a,b,c,d,e]:=rfl
def N1(P:Program)(Γ:Nat→List AV)(N:Nat)(ops:Array Oper)(fl:List Nat)(k:Nat)(L:List Oper)(K:Env→AS→Prop)(E:Env)(s:AS):Prop:=pz P Γ N ops (sI fl k L) K E s
theorem Kg:∃f:Program→(Nat→List AV)→Nat→Array Oper→List Nat→Nat→List Oper→(Env→AS→Prop)→Env→AS→Prop,f=N1:=⟨_,rfl⟩
noncomputable def RQ:Program→(Nat→List AV)→Nat→Array Oper→List Nat→Nat→List Oper→(Env→AS→Prop)→Env→AS→Prop:=Classical.choose Kg
theorem axq:RQ=N1:=Classical.choose_spec Kg
theorem ca{fl:List Nat}{k:Nat}:RQ P Γ N ops fl k [] K E s=K E s:=by rw[axq];rfl
theorem bI{fl:List Nat}{k:Nat}{o:Oper}{rest:List Oper}:RQ P Γ N ops fl k (o::rest) K E s=
    if fl.contains k=true then AY P Γ N ops [o] (RQ P Γ N ops fl (k+1) rest K) E s
    else((∀d,o.dst=some d→d<N)∧match bN P Γ ops o E with |some v=>RQ P Γ N ops fl (k+1) rest K (bx E o.dst v) s|none=>False):=by rw[axq,ay];rfl
section
variable{Q:Exit→Env→AS→Prop}
theorem awp_reg_seq{id:Nat}{L:List Oper}{y:Code}(h:∀K:Env→AS→Prop,(∀E s,cp P Γ N y Q E s→K E s)→AY P Γ N L.toArray L K E s):cp P Γ N (.seq (.region id L.toArray false) y) Q E s:=
  xB fun K hK=>by simpa[ay] using h K hK
theorem awp_reg_end{id:Nat}{L:List Oper}(h:∀K:Env→AS→Prop,(∀E s,Q .normal E s→K E s)→AY P Γ N L.toArray L K E s):cp P Γ N (.region id L.toArray false) Q E s:=
  xC fun K hK=>by simpa[ay] using h K hK
theorem ba(hm:P.follows .mixedOrders=true)(fl:List Nat){id:Nat}{L:List Oper}{y:Code}(iN:ru L.toArray fl=true)(h:∀K:Env→AS→Prop,(∀E s,cp P Γ N y Q E s→K E s)→RQ P Γ N L.toArray fl 0 L K E s):
    cp P Γ N (.seq (.region id L.toArray true) y) Q E s:=
  BW hm fl iN fun K hK=>by simpa[axq,N1] using h K hK
theorem fq(hm:P.follows .mixedOrders=true)(fl:List Nat){id:Nat}{L:List Oper}(iN:ru L.toArray fl=true)(h:∀K:Env→AS→Prop,(∀E s,Q .normal E s→K E s)→RQ P Γ N L.toArray fl 0 L K E s):
    cp P Γ N (.region id L.toArray true) Q E s:=
  BX hm fl iN fun K hK=>by simpa[axq,N1] using h K hK
end
end Go.AM
namespace Go.AM
open Go Go.RowKit
def ed(k n:Nat)(st:List UInt8×Bool):List UInt8×Bool:=if st.2=true then st else(st.1++be k n,false)
def bm(k:Nat)(n:Int)(st:List UInt8×Bool):List UInt8×Bool:=if 0≤n∧n<2^(8*k) then ed k n.toNat st else(st.1,true)
def ee(m:List UInt8)(st:List UInt8×Bool):List UInt8×Bool:=if st.2=true then st else(st.1++m,false)
def dx(k:Nat)(m:List UInt8)(st:List UInt8×Bool):List UInt8×Bool:=ee m (bm k m.length st)
abbrev gb(s0 s:AS)(p:Nat)(st:List UInt8×Bool):Prop:=wZ s0 s p st.1 st.2
def zF(x:AV)(l:List UInt8):Prop:=(x=bL∧l=[])∨∃sp,x=al l sp
theorem zF.nil:zF bL []:=.inl ⟨rfl,rfl⟩
theorem zF.mk(l:List UInt8)(sp:Sp):zF (al l sp) l:=.inr ⟨sp,rfl⟩
theorem aj.any{P:Program}{Γ:Nat→List AV}{f:FuncId}{pre post:List AV}{l:List UInt8}{s:AS}{Q:AV→AS→Prop}(h0:l=[]→aj P Γ f (pre++bL::post) s Q)(h1:aj P Γ f (pre++al l .no::post) s Q):
    aj P Γ f (pre++al l .any::post) s Q:=by
  intro G w vs hs hv;have key:∀(pre:List AV)(vs:List Value),au G (pre++al l .any::post) vs→(l=[]∧au G (pre++bL::post) vs)∨au G (pre++al l .no::post) vs:=by
    intro pre;induction pre with
    |nil=>
      intro vs h;simp only[List.nil_append,au] at h⊢;obtain⟨u,us,rfl,h1,h2⟩:=h;rcases av.any h1 with⟨h3,_,h4⟩|h3
      · exact .inl ⟨List.eq_nil_of_length_eq_zero h3,u,us,rfl,h4,h2⟩
      · exact .inr ⟨u,us,rfl,h3,h2⟩
    |cons x pre ih=>
      intro vs h;simp only[List.cons_append,au] at h⊢;obtain⟨u,us,rfl,h1,h2⟩:=h;rcases ih us h2 with⟨h3,h4⟩|h3
      · exact .inl ⟨h3,u,us,rfl,h1,h4⟩
      · exact .inr ⟨u,us,rfl,h1,h3⟩
  rcases key pre vs hv with⟨h3,h4⟩|h3
  · exact h0 h3 G w vs hs h4
  · exact h1 G w vs hs h3
theorem F1(k n:Nat)(st:List UInt8×Bool):(ed k n st).1.length≤st.1.length+k:=by
  unfold ed;split <;>simp
theorem eE(k:Nat)(n:Int)(st:List UInt8×Bool):(bm k n st).1.length≤st.1.length+k:=by
  unfold bm;split
  · exact F1 ..
  · simp
theorem xO(m:List UInt8)(st:List UInt8×Bool):(ee m st).1.length≤st.1.length+m.length:=by
  unfold ee;split <;>simp
theorem wZ.N2{s0 s:AS}{p:Nat}{bad:Bool}(h:wZ s0 s p [] bad){t:Nat}(ht:s.own t=none)(m:List UInt8):wZ s0 ((s.bw t 0).set p [.sl 1 m.length (m.map ai) (.own t 0),.v (.bool false)]) p m false:=
  h.B0 (m:=m) false (h.DG ht)
theorem wZ.bad{s0 s:AS}{p:Nat}{l:List UInt8}{bad:Bool}(h:wZ s0 s p l bad){x:AV}(hx:s.aw p=some [x,.v (.bool bad)])(hb:Buf s0 s x l)(b:Bool):wZ s0 (s.set p [x,.v (.bool b)]) p l b:=
  ⟨AS.aE h.le h.new _,h.new,x,AS.ae _ _ _,hb⟩
theorem AZ(n:Int)(k:Nat)(hk:8*k≤64)(h0:0≤n):(eJ .i64 n (8*(k:Int)) != 0)=decide (2^(8*k)≤n):=by
  obtain⟨m,rfl⟩:=Int.eq_ofNat_of_zero_le h0;rw[show(8*(k:Int))=((8*k:Nat):Int) from by omega,hJ];have :min (8*k) IntKind.i64.bits=8*k:=(by simp[IntKind.bits];omega);rw[this];have e:((2:Int)^(8*k))=((2^(8*k):Nat):Int):=(by push_cast;rfl);rw[e];have ux:0<2^(8*k):=Nat.pow_pos (by decide);by_cases h:m<2^(8*k)
  · rw[Nat.div_eq_of_lt h];simp;omega
  · have :m/2^(8*k)≠0:=by
      rw[Ne,Nat.div_eq_zero_iff];omega
    have h1:((((m/2^(8*k):Nat):Int) != 0)=true):=by
      rw[bne_iff_ne];omega
    rw[h1];symm;rw[decide_eq_true_eq];omega
theorem eV(n:Nat)(h:n<2^64):cG .u64 (n:Int)=n:=by
  rw[gE rfl];simp[IntKind.bits,Nat.mod_eq_of_lt h]
end Go.AM
namespace Go.AM
open Go Go.RowKit
theorem HA{a:Int}(h:(Lit.int .u64 a).wf=true):∃n:Nat,a=n∧n<2^64:=by
  have:=bounds_u64 h;exact⟨a.toNat,by omega,by omega⟩
theorem RR{a:Int}(h:(Lit.int .u8 a).wf=true):∃n:Nat,a=n∧n<2^8:=by
  have:=bounds_u8 h;exact⟨a.toNat,by omega,by omega⟩
end Go.AM
