/- An abstract machine for the model and the rules of its walk, each proved sound over the model; no condition. -/
import Derived.Test.YtbiefppedlodiaaGreatDoorAMp2
import Derived.OpenShut
set_option linter.unusedSimpArgs false
set_option linter.unusedVariables false
namespace Go.AM
open Go Go.RowKit
variable{rd:Option Nat}{P:Program}{Γ:Nat→List AV}{G:Gh}{s:AS}{w:World}
def Ow(ops:Array Oper)(D:List Nat)(o:Oper):Nat:=
  o.after.toList.foldl (fun m e=>if Region.binds .any e then m ||| 2^e.on ||| D.getD e.on 0 else m) 0
def AQ(ops:Array Oper)(D:List Nat):Bool:=
  (List.range ops.size).all fun i=>
    match ops[i]? with
    |some o=>D.getD i 0==Ow ops D o&&o.after.toList.all fun e=>!Region.binds .any e||decide (e.on<i)
    |none=>true
def HQ(ops:Array Oper)(D:List Nat)(fl:List Nat):Bool:=
  (List.range ops.size).all fun j=>(List.range j).all fun i=>
    match ops[i]?,ops[j]? with
    |some x,some y=>(D.getD j 0).testBit i||(x.apart ops y&& !(fl.contains i&&fl.contains j))
    |_,_=>true
def rI(ops:Array Oper)(fl:List Nat):Bool:=
  AQ ops (Region.before ops).toList&&HQ ops (Region.before ops).toList fl
theorem sV(D:List Nat)(l:Nat):∀(es:List Edge)(m:Nat),(es.foldl (fun m e=>if Region.binds .any e then m ||| 2^e.on ||| D.getD e.on 0 else m) m).testBit l=true→
    m.testBit l=true∨∃e∈es,Region.binds .any e=true∧(l=e.on∨(D.getD e.on 0).testBit l=true)
  |[],m,h=>.inl h
  |e::es,m,h=>by
    simp only[List.foldl_cons] at h;rcases sV D l es _ h with h1|⟨e',h1,h2⟩
    · split at h1
      · rename_i hb;rw[Nat.testBit_or,Nat.testBit_or] at h1;simp only[Bool.or_eq_true] at h1;rcases h1 with(h1|h1)|h1
        · exact .inl h1
        · rw[Nat.testBit_two_pow] at h1;exact .inr ⟨e,by simp,hb,.inl (of_decide_eq_true h1).symm⟩
        · exact .inr ⟨e,by simp,hb,.inr h1⟩
      · exact .inl h1
    · exact .inr ⟨e',by simp[h1],h2⟩
theorem jj{ops:Array Oper}{D:List Nat}(h:AQ ops D=true){i:Nat}{o:Oper}(ho:ops[i]? =some o):
    (∀l,(D.getD i 0).testBit l=true→∃e∈o.after.toList,Region.binds .any e=true∧(l=e.on∨(D.getD e.on 0).testBit l=true))∧∀e∈o.after.toList,Region.binds .any e=true→e.on<i:=by
  unfold AQ at h;rw[List.all_eq_true] at h;have hi:i<ops.size:=by
    rcases Nat.lt_or_ge i ops.size with h'|h'
    · exact h'
    · simp[Array.getElem?_eq_none h'] at ho
  have:=h i (by simpa using hi);simp only[ho,Bool.and_eq_true,beq_iff_eq,List.all_eq_true] at this;refine⟨fun l hl=>?_,fun e he hb=>?_⟩
  · rw[this.1] at hl;rcases sV D l _ _ hl with h1|h1
    · simp at h1
    · exact h1
  · have:=this.2 e he;simpa[hb] using this
section
variable{N:Nat}{ops:Array Oper}
def left(ops:Array Oper)(listed:Array Bool):List Nat:=(List.range ops.size).filter fun i=>!listed.getD i true
theorem mem_left{listed:Array Bool}{i:Nat}:i∈left ops listed↔i<ops.size∧listed.getD i true=false:=by
  simp[left]
def rJ(ops:Array Oper)(fl:List Nat)(i:Nat):Oper×Bool:=((ops[i]?).getD default,fl.contains i)
theorem xH{listed:Array Bool}{i:Nat}(hl:listed.size=ops.size)(hi:i<ops.size)(h0:listed.getD i true=false):
    ∃L1 L2,left ops listed=L1++i::L2∧left ops (listed.setIfInBounds i true)=L1++L2∧(∀x∈L1,x<i∧listed.getD x true=false):=by
  have key:∀(n k:Nat),k≤i→i<k+n→
      ∃L1 L2,(List.range' k n).filter (fun i=>!listed.getD i true)=L1++i::L2∧(List.range' k n).filter (fun j=>!(listed.setIfInBounds i true).getD j true)=L1++L2∧(∀x∈L1,x<i∧listed.getD x true=false):=by
    intro n;induction n with
    |zero=>intro k h1 h2;omega
    |succ n ih=>
      intro k h1 h2;rw[List.range'_succ];by_cases hk:k=i
      · subst hk;refine⟨[],(List.range' (k+1) n).filter (fun i=>!listed.getD i true),?_,?_,by simp⟩
        · rw[List.filter_cons_of_pos (by simpa using h0)];rfl
        · rw[List.filter_cons_of_neg (by simp[hl,hi])];simp only[List.nil_append];apply List.filter_congr;intro x hx;rw[getD_set_ne true (by simp at hx;omega)]
      · obtain⟨L1,L2,q1,q2,q3⟩:=ih (k+1) (by omega) (by omega);have cY:(listed.setIfInBounds i true).getD k true=listed.getD k true:=getD_set_ne true (by omega);by_cases hb:listed.getD k true=false
        · refine⟨k::L1,L2,?_,?_,?_⟩
          · rw[List.filter_cons_of_pos (by simpa using hb),q1];rfl
          · rw[List.filter_cons_of_pos (by rw[cY];simpa using hb),q2];rfl
          · intro x hx;rcases List.mem_cons.1 hx with rfl|hx
            · exact⟨by omega,hb⟩
            · exact q3 x hx
        · refine⟨L1,L2,?_,?_,q3⟩
          · rw[List.filter_cons_of_neg (by simpa using hb),q1]
          · rw[List.filter_cons_of_neg (by rw[cY];simpa using hb),q2]
  have:=key ops.size 0 (by omega) (by omega);simpa[left,List.range_eq_range'] using this
theorem B9{fl:List Nat}{Q:Exit→Act→World→Prop}{K:Env→AS→Prop}(iZ:rI ops fl=true):
    ∀(fuel:Nat)(listed:Array Bool){G:Gh}{E:Env}{s:AS}{a:Act}{w:World},listed.size=ops.size→(left ops listed).length≤fuel→
      (∀(i:Nat)(o:Oper),ops[i]? =some o→listed.getD i true=true→∀e∈o.after.toList,Region.binds .any e=true→listed.getD e.on false=true)→
      px P Γ N ops ((left ops listed).map (rJ ops fl)) K E s→Rel Γ N G E s a w→
      (∀G' E' s' a' w',G.le G'→Rel Γ N G' E' s' a' w'→K E' s'→Q .normal a' w')→wpAnyIn (uD rd) 0 P .any ops Q fuel listed a w:=by
  simp only[rI,Bool.and_eq_true] at iZ
  obtain⟨zM,rK⟩:=iZ
  intro fuel
  have sW:∀(listed:Array Bool),Region.ready .any ops listed=[]→left ops listed=[]:=by
    intro listed h
    -- the first that is left could go
    cases hl:left ops listed with
    |nil=>rfl
    |cons i L=>
      exfalso
      have hi:i∈left ops listed:=by rw[hl];simp
      obtain⟨h1,h2⟩:=mem_left.1 hi
      have Ca:∀j,j<i→listed.getD j true=true:=by
        intro j hj
        cases Gd:listed.getD j true with
        |true=>rfl
        |false=>
          exfalso
          have HR:j∈left ops listed:=mem_left.2 ⟨by omega,Gd⟩
          have hs:(left ops listed).Pairwise (· < ·):=by
            unfold left
            exact List.Pairwise.filter _ List.pairwise_lt_range
          rw[hl] at hs HR
          rcases List.mem_cons.1 HR with rfl|HR
          · omega
          · have:=(List.pairwise_cons.1 hs).1 j HR
            omega
      have ho:ops[i]? =some ops[i]:=by simp[h1]
      have hr:i∈Region.ready .any ops listed:=by
        rw[mem_ready]
        refine⟨h2,_,ho,fun e he hb=>?_⟩
        have bJ:=(jj zM ho).2 e (by simpa using he) hb
        have:=Ca _ bJ
        -- both defaults agree where the place is there
        have fa:e.on<listed.size:=by
          rcases Nat.lt_or_ge e.on listed.size with h'|h'
          · exact h'
          · exfalso
            have :listed.getD i true=true:=by
              simp[Array.getElem?_eq_none (show listed.size≤i by omega)]
            rw[h2] at this;cases this
        simpa[fa] using this
      rw[h] at hr
      cases hr
  induction fuel with
  |zero=>
    intro listed G E s a w fa hlen gw h hr hq
    have hl:left ops listed=[]:=List.eq_nil_of_length_eq_zero (by omega)
    have kH:Region.ready .any ops listed=[]:=by
      cases Ox:Region.ready .any ops listed with
      |nil=>rfl
      |cons i L=>
        exfalso
        have :i∈Region.ready .any ops listed:=by rw[Ox];simp
        rw[mem_ready] at this
        obtain⟨h0,o,ho,_⟩:=this
        have :i∈left ops listed:=mem_left.2 ⟨(Array.getElem?_eq_some_iff.1 ho).1,h0⟩
        rw[hl] at this
        cases this
    rw[hl] at h
    exact⟨kH,hq G E s a w (.refl G) hr h⟩
  |succ fuel ih=>
    intro listed G E s a w fa hlen gw h hr hq
    refine⟨fun kH=>?_,fun i hi=>?_⟩
    · rw[sW listed kH] at h
      exact hq G E s a w (.refl G) hr h
    · obtain⟨h0,o,ho,bS⟩:=mem_ready.1 hi
      have zO:i<ops.size:=(Array.getElem?_eq_some_iff.1 ho).1
      obtain⟨L1,L2,q1,q2,q3⟩:=xH fa zO h0
      -- what comes before i is done
      have sX:∀(j:Nat)(oj:Oper),ops[j]? =some oj→(∀e∈oj.after.toList,Region.binds .any e=true→listed.getD e.on false=true)→∀l,((Region.before ops).toList.getD j 0).testBit l=true→listed.getD l false=true:=by
        intro j
        induction j using Nat.strongRecOn with
        |_ j Vl=>
          intro oj AR hj l hl
          obtain⟨d1,d2⟩:=jj zM AR
          obtain⟨e,he,hb,h1⟩:=d1 l hl
          have sD:=hj e he hb
          rcases h1 with rfl|h1
          · exact sD
          · have bJ:=d2 e he hb
            have Vm:e.on<ops.size:=by
              have:=(Array.getElem?_eq_some_iff.1 AR).1
              omega
            have D4:ops[e.on]? =some ops[e.on]:=by simp[Vm]
            refine Vl e.on bJ _ D4 (gw e.on _ D4 ?_) l h1
            have :e.on<listed.size:=by omega
            simpa[this] using sD
      have AU:∀x∈L1,ft ops ((ops[x]?).getD default) o∧¬(fl.contains x=true∧fl.contains i=true):=by
        intro x hx
        obtain⟨hxi,NW⟩:=q3 x hx
        unfold HQ at rK
        rw[List.all_eq_true] at rK
        have h1:=rK i (by simpa using zO)
        rw[List.all_eq_true] at h1
        have h2:=h1 x (by simpa using hxi)
        have Vn:ops[x]? =some (ops[x]'(by omega)):=by simp
        rw[Vn,ho] at h2
        simp only[Bool.or_eq_true,Bool.and_eq_true,Bool.not_eq_true'] at h2
        rcases h2 with h2|⟨h2,h3⟩
        · exfalso
          have:=sX i o ho (fun e he hb=>bS e (by simpa using he) hb) x h2
          have Vo:x<listed.size:=by omega
          simp[Vo] at this NW
          rw[NW] at this;cases this
        · refine⟨by rw[Vn];exact h2,fun hc=>?_⟩
          rw[hc.1,hc.2] at h3
          cases h3
      have cz:∀{G':Gh}{E':Env}{s':AS}{a':Act}{w':World},G.le G'→px P Γ N ops ((L1++L2).map (rJ ops fl)) K E' s'→Rel Γ N G' E' s' a' w'→wpAnyIn (uD rd) 0 P .any ops Q fuel (listed.setIfInBounds i true) a' w':=by
        intro G' E' s' a' w' hle hA B8
        refine ih (listed.setIfInBounds i true) (by simpa using fa) ?_ ?_ ?_ B8 (fun vF ji ic zJ wA k1 k2 k3=>hq vF ji ic zJ wA (hle.trans k1) k2 k3)
        · rw[q2]
          rw[q1] at hlen
          simp at hlen⊢
          omega
        · intro j oj AR hj e he hb
          by_cases FY:j=i
          · subst FY
            rw[ho] at AR;cases AR
            exact getD_set_true (bS e (by simpa using he) hb)
          · rw[getD_set_ne true (Ne.symm FY)] at hj
            exact getD_set_true (gw j oj AR hj e he hb)
        · rw[q2];exact hA
      rw[q1] at h
      simp only[List.map_append,List.map_cons] at h cz
      have ib:rJ ops fl i=(o,fl.contains i):=by simp[rJ,ho]
      rw[ib] at h
      cases hf:fl.contains i with
      |false=>
        rw[hf] at h
        have lM:∀x∈L1.map (rJ ops fl),ft ops x.1 o:=by
          intro x hx
          obtain⟨j,hj,rfl⟩:=List.mem_map.1 hx
          exact(AU j hj).1
        obtain⟨hd,v,hv⟩:=xG _ lM h hr
        have h1:=lN _ lM hv h
        have hX:px P Γ N ops ((o,false)::(L1.map (rJ ops fl)++L2.map (rJ ops fl))) K E s:=by
          simp only[px,Bool.false_eq_true,if_false,hv]
          exact⟨hd,h1⟩
        have h2:=Gm hX
        exact jZ (L:=[]) (K:=fun E s=>px P Γ N ops (L1.map (rJ ops fl)++L2.map (rJ ops fl)) K E s) ho h2 hr (fun G' E' s' a' w' k1 k2 k3=>cz k1 k3 k2)
      |true=>
        rw[hf] at h
        have lM:∀x∈L1.map (rJ ops fl),ft ops x.1 o∧x.2=false:=by
          intro x hx
          obtain⟨j,hj,rfl⟩:=List.mem_map.1 hx
          refine⟨(AU j hj).1,?_⟩
          cases hc:fl.contains j with
          |false=>exact hc
          |true=>exact absurd ⟨hc,hf⟩ (AU j hj).2
        have h2:=qS _ lM h
        exact jZ (L:=[]) (K:=fun E s=>px P Γ N ops (L1.map (rJ ops fl)++L2.map (rJ ops fl)) K E s) ho h2 hr (fun G' E' s' a' w' k1 k2 k3=>cz k1 k3 k2)
def marked(ops:Array Oper)(fl:List Nat):List (Oper×Bool):=(List.range ops.size).map (rJ ops fl)
theorem uF:∀(L:List (Oper×Bool)){K:Env→AS→Prop}{E:Env}{s:AS},px P Γ N ops L K E s→px P Γ N ops L (fun E' s'=>K E' s'∧∀i,i∉cC (L.map (·.1))→E' i=E i) E s
  |[],K,E,s,h=>⟨h,fun _ _=>rfl⟩
  |(o,xd)::L,K,E,s,h=>by
    have jk:∀i,i∉cC (((o,xd)::L).map (·.1))→i∉cC (L.map (·.1))∧o.dst≠some i:=by
      intro i hi;simp only[cC,List.map_cons,List.filterMap_cons] at hi;refine⟨fun hm=>hi ?_,fun e=>hi (by simp[e])⟩;simp only[cC] at hm;split
      · exact hm
      · exact List.mem_cons_of_mem _ hm
    simp only[px] at h⊢;split at h
    · rename_i he;rw[if_pos he];refine cW _ (fun E' s' hE=>?_) (dg h);refine sU L (fun ji ic D5=>⟨D5.1,fun i hi=>?_⟩) (uF L hE.1);obtain⟨m1,m2⟩:=jk i hi;rw[D5.2 i m1,hE.2 i m2]
    · rename_i he;rw[if_neg he];refine⟨h.1,?_⟩;have h:=h.2;split at h
      · refine sU L (fun ji ic D5=>⟨D5.1,fun i hi=>?_⟩) (uF L h);obtain⟨m1,m2⟩:=jk i hi;rw[D5.2 i m1,cG m2]
      · exact h
theorem oE{E:Env}{Q:Exit→Env→AS→Prop}(hm:P.follows .mixedOrders=true)(fl:List Nat){id:Nat}(iZ:rI ops fl=true)(h:px P Γ N ops (marked ops fl) (fun E' s'=>Q .normal E' s') E s):
    ct P Γ N (.region id ops true) Q E s:=by
  intro G a w hr;refine wpIn_region_any hm ?_;have D6:left ops (Array.replicate ops.size false)=List.range ops.size:=by
    unfold left;rw[List.filter_eq_self];intro i hi;have :i<ops.size:=(by simpa using hi);simp[this]
  have B8:Rel Γ N G E s a w.drew:=⟨hr.st.drew,hr.size,hr.tmps,hr.defers⟩;refine B9 iZ ops.size (Array.replicate ops.size false) (by simp) (by rw[D6];simp) ?_ (by rw[D6];exact uF _ h) B8 ?_
  · intro i o ho hl;have :i<ops.size:=(Array.getElem?_eq_some_iff.1 ho).1;simp[this] at hl
  · intro G' E' s' a' w' h1 h2 h3;refine⟨G',E',s',h1,h2,h3.1,fun i hi=>h3.2 i fun hm=>hi ?_⟩;have :(marked ops fl).map (·.1)=ops.toList:=by
      apply List.ext_getElem?;intro j;simp only[marked,List.getElem?_map];by_cases hj:j<ops.size
      · simp[hj,rJ]
      · simp[hj]
    have Jk:i∈cC ((marked ops fl).map (·.1)):=hm;rw[this] at Jk;exact Jk
end
end Go.AM
namespace Go.AM
open Go Go.RowKit
variable{rd:Option Nat}{P:Program}{Γ:Nat→List AV}{G:Gh}{s:AS}{w:World}
def bx(args:List AV):Env:=fun i=>args.getD i (.v undef)
def dm(P:Program)(E:Env)(s:AS):ResultVar→Option AV
  |.tmp t=>some (E t)
  |.cell a T=>
    match E a with
    |.ptr o off=>
      match s.aw o with
      |some cs=>if P.cellsOf T=0 then none else oC P T (cs.drop off)
      |none=>none
    |_=>none
def bF(P:Program)(E:Env)(s:AS):List ResultVar→Option (List AV)
  |[]=>some []
  |r::rs=>match dm P E s r,bF P E s rs with |some v,some vs=>some (v::vs)|_,_=>none
def eD:List AV→AV
  |[r]=>r
  |rs=>.eu rs
def bz(P:Program)(rs:List ResultVar)(ca:AV→AS→Prop)(E:Env)(s:AS):Prop:=
  match bF P E s rs with
  |some vs=>∃r s',(eD vs).aE r∧s'.le s∧ca r s'
  |none=>False
def ck(P:Program)(rs:List ResultVar)(ca:AV→AS→Prop):Exit→Env→AS→Prop
  |.normal,E,s=>bz P rs ca E s
  |.ret,E,s=>bz P rs ca E s
  |_,_,_=>False
def KF(tmps:Array Value):ResultVar→Sem Value
  |.tmp t=>pure (tmps.getD t undef)
  |.cell b t=>do loadVar t (←asAddr (tmps.getD b undef))
theorem lO(fn:Func)(tmps:Array Value):results fn tmps=(do let vs ←fn.results.mapM (KF tmps);pure (if h:vs.size=1 then vs[0] else .tuple vs)):=by
  unfold results;have :(fun x:ResultVar=>(match x with |.tmp t=>pure (tmps.getD t undef)|.cell a t=>(do loadVar t (←asAddr (tmps.getD a undef)):Sem Value):Sem Value))=KF tmps:=by
    funext x;cases x<;>rfl
  rw[←this];rfl
theorem KG{N:Nat}{E:Env}{a:Act}(hr:Rel Γ N G E s a w){rv:ResultVar}{v:AV}(h:dm P E s rv=some v):
    ∃z,(KF a.tmps rv).run P w=.ok z w∧av G v z:=by
  cases rv with
  |tmp t=>simp only[dm] at h;cases h;exact⟨_,rfl,hr.tmps t⟩
  |cell b T=>
    simp only[dm] at h;have hb:=hr.tmps b;split at h
    · rename_i o off hE;rw[hE] at hb;split at h
      · rename_i cs FW;split at h
        · cases h
        · rename_i hz;simp only[av] at hb;obtain⟨nE,xbQ,hu⟩:=hb;obtain⟨b',vs,h1,h2,h3,h4⟩:=hr.st.aw o cs FW;rw[xbQ] at h1;cases h1;obtain⟨z,q1,q2⟩:=nI (w:=w) h hz (h2.drop off) (b:=nE) (off:=off) (fun j u hj=>by
            rw[cI];rw[List.getElem?_drop] at hj;exact(h4 _ _ hj).1)
          refine⟨z,?_,q2⟩;simp only[KF];rw[hu];simp[asAddr,q1]
      · cases h
    · cases h
theorem qm{N:Nat}{E:Env}{a:Act}(hr:Rel Γ N G E s a w):∀{rs:List ResultVar}{vs:List AV},bF P E s rs=some vs→
    ∃zs:List Value,(rs.mapM (KF a.tmps)).run P w=.ok zs w∧ar G vs zs
  |[],vs,h=>by simp only[bF] at h;cases h;exact⟨[],by simp,by simp[ar]⟩
  |r::rs,vs,h=>by
    simp only[bF] at h;split at h
    · rename_i v NU h1 h2;cases h;obtain⟨z,q1,q2⟩:=KG hr h1;obtain⟨zs,q3,q4⟩:=qm hr h2;refine⟨z::zs,?_,by simp only[ar];exact⟨z,zs,rfl,q2,q4⟩⟩;simp only[List.mapM_cons,Sem.run_bind,q1,Result.andThen_ok,q3,Sem.run_pure]
    · cases h
theorem rL{vs:List AV}{zs:List Value}(h:ar G vs zs):av G (eD vs) (if h:zs.toArray.size=1 then zs.toArray[0] else .tuple zs.toArray):=by
  have hl:=h.length;match vs,zs,h with
  |[],[],h=>simp only[eD,av];exact⟨[],rfl,h⟩
  |[v],[z],h=>
    simp only[ar] at h;obtain⟨u,us,h1,h2,_⟩:=h;cases h1;simpa[eD] using h2
  |v::v'::vs,z::z'::zs,h=>
    simp only[eD,av];exact⟨z::z'::zs,by simp,h⟩
  |[],z::zs,h=>simp at hl
  |v::vs,[],h=>simp at hl
  |[v],z::z'::zs,h=>simp at hl
  |v::v'::vs,[z],h=>simp at hl
theorem Jl{f:FuncId}{fn:Func}{c:Code}{args:List AV}{ca:AV→AS→Prop}{s:AS}(hf:P.funcs[f]? =some fn)(hb:fn.body=some c)(hn:args.length≤fn.ntmps)
    (h:ct P Γ fn.ntmps c (ck P fn.results.toList ca) (bx args) s):aj P Γ f args s ca:=by
  intro G w vs hs hv;have QW:=hv.length;refine calls_of_wp hf hb ?_;have xI:Rel Γ fn.ntmps (G.cO []) (bx args) s {tmps:=vs.toArray++Array.replicate (fn.ntmps-vs.toArray.size) undef,defers:=[]} w:=by
    refine⟨hs.cO,by simp;omega,fun i=>?_,rfl⟩;simp only[bx];by_cases hi:i<args.length
    · obtain⟨u,h1,h2⟩:=hv.getD i hi;have aY:i<vs.length:=(by omega);rw[Array.getD_eq_getD_getElem?,Array.getElem?_append_left (by simpa using aY)];simp only[List.getElem?_toArray,h1,Option.getD_some];exact av.cO _ _ h2
    · have e1:args.getD i (.v undef)=.v undef:=(by simp[List.getD,List.getElem?_eq_none (Nat.le_of_not_lt hi)]);rw[e1,Array.getD_eq_getD_getElem?,Array.getElem?_append_right (by simp;omega)];simp only[av];cases hh:(Array.replicate (fn.ntmps-vs.toArray.size) undef)[i-vs.toArray.size]? with
      |none=>rfl
      |some u=>
        rw[Array.getElem?_replicate] at hh;split at hh
        · cases hh;rfl
        · cases hh
  refine wpIn_wide.1 (wpIn_mono (F:=uD none) (n:=0) (h _ _ w xI) ?_);rintro e a' w' ⟨G',E',s',h1,h2,h3,h4⟩;have fin:bz P fn.results.toList ca E' s'→bodyPost P fn (fun e w'=>∃G' r v s',e=.returned v∧G.le G'∧aQ Γ G' s' w'∧av G' r v∧ca r s') .normal a' w':=by
    intro hF;unfold bz at hF;split at hF
    · rename_i NU FV;obtain⟨r,s2,q1,q2,q3⟩:=hF;obtain⟨zs,r1,r2⟩:=qm h2 FV;refine⟨h2.defers.trans h1.df,if h:zs.toArray.size=1 then zs.toArray[0] else .tuple zs.toArray,?_,G'.cO G.df,r,_,s2,rfl,Gh.xr h1,(h2.st.mono q2).cO,av.cO _ _ (q1 _ _ (rL r2)),q3⟩;rw[lO,Array.mapM_eq_mapM_toList];simp only[Sem.run_bind,Sem.run_map,r1,Result.andThen_ok,Sem.run_pure]
    · exact hF.elim
  cases e<;>simp only[ck] at h3;case normal=>exact fin h3
  case ret=>exact fin h3
def eE(Γ:Nat→List AV)(N:Nat)(E:Env)(s:AS)(E':Env)(s':AS):Prop:=
  ∀(G:Gh)(a:Act)(w:World),Rel Γ N G E s a w→∃G',G.le G'∧Rel Γ N G' E' s' a w
theorem eE.freeze{N:Nat}{E:Env}{s:AS}{d o off sz n cap:Nat}{cs:List AV}(hE:E d=.ig o off sz n cap)(ho:s.aw o=some cs)(hle:off+n*sz≤cs.length):
    eE Γ N E s (aB E d (.sl sz n ((cs.drop off).take (n*sz)) .no)) (s.drop o):=by
  intro G a w hr;obtain⟨b,vs,h1,h2,h3,h4,h5⟩:=hr.st.freeze ho;refine⟨_,h3,h5,hr.size,fun i=>?_,hr.defers.trans h3.df.symm⟩;simp only[aB];split
  · rename_i e;subst e;have:=hr.tmps i;rw[hE] at this;simp only[av] at this;obtain⟨b',k1,k2,k3⟩:=this;rw[h1] at k1;cases k1;have hl:=h2.length;rw[k2];simp only[av];refine .inl ⟨b,off,cap,(vs.drop off).take (n*sz),rfl,by simp;omega,k3,ar.mono h3 _ _ ((h2.drop _).take _),?_,trivial⟩;have:=(h4.drop off).take (n*sz);simpa using this
  · exact av.mono h3 _ _ (hr.tmps i)
theorem jl{N:Nat}{E:Env}{Q:Exit→Env→AS→Prop}{id:Nat}{ops:Array Oper}
    (h:AX P Γ N ops ops.toList (fun E' s'=>∃ji ic,eE Γ N E' s' ji ic∧(∀i,i∉cC ops.toList→ji i=E' i)∧Q .normal ji ic) E s):ct P Γ N (.region id ops false) Q E s:=by
  intro G a w hr;refine wpIn_region (lK ops.toList _ ?_ (dI _ h) hr ?_)
  · apply List.ext_getElem?;intro i;simp only[List.getElem?_map];by_cases hi:i<ops.size
    · simp[hi]
    · simp[hi]
  · intro G' E' s' a' w' h1 h2 h3;obtain⟨⟨ji,ic,k1,k2,k3⟩,k4⟩:=h3;obtain⟨vF,q1,q2⟩:=k1 G' a' w' h2;exact⟨vF,ji,ic,h1.trans q1,q2,k3,fun i hi=>by rw[k2 i hi,k4 i hi]⟩
theorem AV.da{a b c d:AV}(h:a.aE c)(k:b.aE d):(AV.eu [a,b]).aE (.eu [c,d]):=by
  intro G v hv;simp only[av,ar] at hv⊢;obtain⟨vs,rfl,u,us,rfl,h1,u',wu,rfl,h2,rfl⟩:=hv;exact⟨_,rfl,u,_,rfl,h G u h1,u',_,rfl,k G u' h2,rfl⟩
theorem AV.qn{a b c d e f:AV}(h:a.aE d)(k:b.aE e)(l:c.aE f):(AV.eu [a,b,c]).aE (.eu [d,e,f]):=by
  intro G v hv;simp only[av,ar] at hv⊢;obtain⟨vs,rfl,u,us,rfl,h1,u',wu,rfl,h2,u'',xhq,rfl,h3,rfl⟩:=hv;exact⟨_,rfl,u,_,rfl,h G u h1,u',_,rfl,k G u' h2,u'',_,rfl,l G u'' h3,rfl⟩
end Go.AM
namespace Go.AM
open Go Go.RowKit
variable{P:Program}{Γ:Nat→List AV}{s:AS}
theorem aa{f:FuncId}{fn:Func}{c:Code}{rs:Array ResultVar}{N:Nat}{args:List AV}{ca:AV→AS→Prop}{s:AS}(hf:P.funcs[f]? =some fn)(hb:fn.body=some c)(hN:fn.ntmps=N)(Jm:fn.results=rs)(hn:args.length≤N)
    (h:ct P Γ N c (ck P rs.toList ca) (bx args) s):aj P Γ f args s ca:=by
  subst hN Jm;exact Jl hf hb hn h
theorem AS.gW(s:AS)(o:Nat)(cs:List AV):(s.set o cs).aw=aB s.aw o (some cs):=rfl
theorem AS.AW(s:AS)(t e:Nat):(s.bA t e).aw=s.aw:=rfl
theorem AS.qo(s:AS)(o:Nat):(s.drop o).aw=aB s.aw o none:=rfl
theorem AS.HS(s:AS)(o:Nat)(cs:List AV):(s.set o cs).own=s.own:=rfl
theorem AS.vG(s:AS)(t e:Nat):(s.bA t e).own=aB s.own t (some e):=rfl
theorem AS.D7(s:AS)(o:Nat):(s.drop o).own=s.own:=rfl
theorem AS.set_set(s:AS)(o:Nat)(a b:List AV):(s.set o a).set o b=s.set o b:=by
  simp only[AS.set,AS.mk.injEq,and_true];funext i;simp only[aB];split <;>rfl
def sY(fl:List Nat):Nat→List Oper→List (Oper×Bool)
  |_,[]=>[]
  |k,o::L=>(o,fl.contains k)::sY fl (k+1) L
theorem AZ(fl:List Nat):∀(L:List Oper)(k i:Nat),(sY fl k L)[i]? =(L[i]?).map fun o=>(o,fl.contains (k+i))
  |[],k,i=>by simp[sY]
  |o::L,k,0=>by simp[sY]
  |o::L,k,i+1=>by
    simp only[sY,List.getElem?_cons_succ];rw[AZ fl L (k+1) i,show k+1+i=k+(i+1) from by omega]
theorem A0(ops:Array Oper)(fl:List Nat):marked ops fl=sY fl 0 ops.toList:=by
  apply List.ext_getElem?;intro i;rw[AZ];simp only[marked,List.getElem?_map,Nat.zero_add];by_cases hi:i<ops.size
  · simp[hi,rJ]
  · simp[hi]
section
variable{N:Nat}{E:Env}{Q:Exit→Env→AS→Prop}
theorem awp_seq_k{x y:Code}(h:∀K:Env→AS→Prop,(∀E s,ct P Γ N y Q E s→K E s)→ct P Γ N x (aA K Q) E s):ct P Γ N (.seq x y) Q E s:=
  lh (h _ fun _ _ h=>h)
theorem xJ{id:Nat}{ops:Array Oper}{y:Code}(h:∀K:Env→AS→Prop,(∀E s,ct P Γ N y Q E s→K E s)→AX P Γ N ops ops.toList K E s):ct P Γ N (.seq (.region id ops false) y) Q E s:=
  lh (nP (h _ fun _ _ h=>h))
theorem xK{id:Nat}{ops:Array Oper}(h:∀K:Env→AS→Prop,(∀E s,Q .normal E s→K E s)→AX P Γ N ops ops.toList K E s):ct P Γ N (.region id ops false) Q E s:=
  nP (h _ fun _ _ h=>h)
theorem awp_cond_k{c:Operand}{x y:Code}(h:∀X Y:Prop,(ct P Γ N x Q E s→X)→(ct P Γ N y Q E s→Y)→match aN Γ E c with |.v (.bool t)=>(t=true→X)∧(t=false→Y)|_=>False):ct P Γ N (.cond c x y) Q E s:=by
  have h1:=h _ _ id id;split at h1
  · rename_i t hc;exact xF hc h1.1 h1.2
  · exact h1.elim
theorem Cb(hm:P.follows .mixedOrders=true)(fl:List Nat){id:Nat}{ops:Array Oper}{y:Code}(iZ:rI ops fl=true)(h:∀K:Env→AS→Prop,(∀E s,ct P Γ N y Q E s→K E s)→px P Γ N ops (sY fl 0 ops.toList) K E s):
    ct P Γ N (.seq (.region id ops true) y) Q E s:=
  lh (oE hm fl iZ (by rw[A0];exact h _ fun _ _ h=>h))
theorem Cc(hm:P.follows .mixedOrders=true)(fl:List Nat){id:Nat}{ops:Array Oper}(iZ:rI ops fl=true)(h:∀K:Env→AS→Prop,(∀E s,Q .normal E s→K E s)→px P Γ N ops (sY fl 0 ops.toList) K E s):
    ct P Γ N (.region id ops true) Q E s:=
  oE hm fl iZ (by rw[A0];exact h _ fun _ _ h=>h)
end
end Go.AM
namespace Go.AM
open Go Go.RowKit
section
variable{k:IntKind}
theorem kI(h:k.signed=false)(x:Int):k.wrap x=x%(2^k.bits:Nat):=by
  cases k<;>simp[IntKind.signed] at h<;>simp[IntKind.wrap,IntKind.bits,IntKind.signed]<;>omega
theorem uG(h:k.signed=false)(a b:Nat):dQ k a b=((a+b)%2^k.bits:Nat):=by
  rw[dQ,kI h];push_cast;rfl
theorem Cd(h:k.signed=false)(a b:Nat):ia k a b=((a*b)%2^k.bits:Nat):=by
  rw[ia,kI h];push_cast;rfl
theorem A1(h:k.signed=false)(a b:Nat)(hb:b≤a)(ha:a<2^k.bits):dr k a b=((a-b:Nat):Int):=by
  rw[dr,kI h,show(a:Int)-b=((a-b:Nat):Int) from by omega,←Int.natCast_emod,Nat.mod_eq_of_lt (by omega)]
theorem xL(a:Nat)(n:Nat):BitVec.ofInt n (a:Int)=BitVec.ofNat n a:=by simp
theorem rM(h:k.signed=false)(a b:Nat)(ha:a<2^k.bits)(hb:b<2^k.bits):mr k a b=((a &&& b:Nat):Int):=by
  rw[mr,kI h,xL,xL,BitVec.toNat_and,BitVec.toNat_ofNat,BitVec.toNat_ofNat,Nat.mod_eq_of_lt ha,Nat.mod_eq_of_lt hb,←Int.natCast_emod,Nat.mod_eq_of_lt (Nat.lt_of_le_of_lt Nat.and_le_left ha)]
theorem A2(h:k.signed=false)(a b:Nat)(ha:a<2^k.bits)(hb:b<2^k.bits):F6 k a b=((a ||| b:Nat):Int):=by
  rw[F6,kI h,xL,xL,BitVec.toNat_or,BitVec.toNat_ofNat,BitVec.toNat_ofNat,Nat.mod_eq_of_lt ha,Nat.mod_eq_of_lt hb,←Int.natCast_emod,Nat.mod_eq_of_lt (Nat.or_lt_two_pow ha hb)]
theorem Gn(h:k.signed=false)(a b:Nat)(ha:a<2^k.bits)(hb:b<2^k.bits):DP k a b=((a ^^^ b:Nat):Int):=by
  rw[DP,kI h,xL,xL,BitVec.toNat_xor,BitVec.toNat_ofNat,BitVec.toNat_ofNat,Nat.mod_eq_of_lt ha,Nat.mod_eq_of_lt hb,←Int.natCast_emod,Nat.mod_eq_of_lt (Nat.xor_lt_two_pow ha hb)]
theorem rN(h:k.signed=false)(a c:Nat):kC k a c=((a*2^(min c k.bits))%2^k.bits:Nat):=by
  rw[kC,kI h];push_cast;simp
theorem ir(a c:Nat):eU k a c=((a/2^(min c k.bits):Nat):Int):=by
  rw[eU,Int.fdiv_eq_ediv_of_nonneg _ (Int.le_of_lt (Int.pow_pos (by decide)))];push_cast;simp
theorem gN(h:k.signed=false)(a:Nat):cE k a=((a%2^k.bits:Nat):Int):=by
  rw[cE,kI h];push_cast;rfl
theorem Sz(h:k.signed=false)(a:Nat)(ha:a<2^k.bits):Kv k a=((2^k.bits-1-a:Nat):Int):=by
  have e:BitVec.ofInt k.bits (if k.signed=true then -1 else k.max)=BitVec.allOnes k.bits:=by
    cases k<;>simp[IntKind.signed] at h<;>rfl
  have :(BitVec.allOnes k.bits ^^^ BitVec.ofNat k.bits a).toNat=2^k.bits-1-a:=by
    rw[BitVec.allOnes_xor,BitVec.toNat_not,BitVec.toNat_ofNat,Nat.mod_eq_of_lt ha]
  rw[Kv,kI h,e,xL,this,←Int.natCast_emod,Nat.mod_eq_of_lt (by omega)]
theorem KH(h:k.signed=false)(a b:Nat)(ha:a<2^k.bits):kX k a b=((a/b:Nat):Int):=by
  rw[kX,kI h,show(a:Int).tdiv b=((a/b:Nat):Int) from(Int.ofNat_tdiv a b).symm,←Int.natCast_emod,Nat.mod_eq_of_lt (Nat.lt_of_le_of_lt (Nat.div_le_self a b) ha)]
theorem lP(a b:Nat):iW a b=((a%b:Nat):Int):=by rw[iW];exact(Int.ofNat_tmod a b).symm
theorem ec{a b:Int}(h: -9223372036854775808≤a+b∧a+b≤9223372036854775807):dQ .i64 a b=a+b:=IntWalk.i64_in _ h
theorem bO{a b:Int}(h: -9223372036854775808≤a-b∧a-b≤9223372036854775807):dr .i64 a b=a-b:=IntWalk.i64_in _ h
theorem dJ{a b:Int}(h: -9223372036854775808≤a*b∧a*b≤9223372036854775807):ia .i64 a b=a*b:=IntWalk.i64_in _ h
theorem A3{a:Int}(h: -9223372036854775808≤a∧a≤9223372036854775807):cE .i64 a=a:=IntWalk.i64_in _ h
end
variable{P:Program}
def G0(w:World):Gh:={ro:=fun b j=>w.cell? ⟨b,j,none⟩,obj:=fun _=>none,tok:=fun _ _=>none,no:=0,nt:=0,B:=w.heap.size,w0:=w,df:=[]}
def s0:AS:=⟨fun _=>none,fun _=>none⟩
theorem aQ.start(Γ:Nat→List AV)(w:World)(hg:∀g,∃vs,ar (G0 w) (Γ g) vs∧gz (G0 w) g 0 vs):aQ Γ (G0 w) s0 w where
  ro _ _ _ h:=h
  aw o cs h:=by simp[s0] at h
  cX o b h:=by simp[G0] at h
  inj o o' b h:=by simp[G0] at h
  own t e h:=by simp[s0] at h
  cJ t e t' e' b st en xa xb h:=by simp[s0] at h
  bR t e h:=by simp[s0] at h
  cF o _:=rfl
  cb t _ _:=rfl
  below:=Below.refl _ _
  others:=dn.refl _
  base:=Nat.le_refl _
  gZ:=hg
  soft b c T lo hi hb hc:=by
    rcases hb with⟨o,h⟩|⟨t,e,r,h,_⟩
    · simp[G0] at h
    · simp[s0] at h
theorem aj.start{Γ:Nat→List AV}{f:FuncId}{args:List AV}{ca:AV→AS→Prop}(h:aj P Γ f args s0 ca){w:World}{vs:List Value}(hv:ar (G0 w) args vs)
    (hg:∀g,∃vs,ar (G0 w) (Γ g) vs∧gz (G0 w) g 0 vs) (hp:∀r s',ca r s'→r=.v (.bool true)):
    Calls P f vs.toArray w fun e w'=>e=.returned (.bool true)∧Below w.heap.size w w':=by
  refine(h (G0 w) w vs (aQ.start Γ w hg) hv).mono ?_;rintro e w' ⟨G',r,v,s',rfl,h1,h2,h3,h4⟩;have hr:=hp r s' h4;subst hr;simp only[av] at h3;subst h3;refine⟨rfl,?_⟩;have hb:=h2.below;rw[h1.B,h1.w0] at hb;exact hb
def Γ0:Nat→List AV:=fun _=>[]
end Go.AM
namespace Go.AM
open Go Go.RowKit
def be:Nat→Nat→List UInt8
  |0,_=>[]
  |k+1,n=>UInt8.ofNat (n/2^(8*k))::be k n
@[simp] theorem jm(k n:Nat):(be k n).length=k:=by
  induction k with
  |zero=>rfl
  |succ k ih=>simp[be,ih]
def bU:AV:=.v (.slice none 0 0)
def al(l:List UInt8)(sp:Sp):AV:=.sl 1 l.length (l.map ae) sp
def Buf(s0 s:AS)(x:AV)(l:List UInt8):Prop:=
  (x=bU∧l=[])∨∃t e,x=al l (.own t e)∧s.own t=some e∧s0.own t=none
structure xe(s0 s:AS)(p:Nat)(l:List UInt8)(bad:Bool):Prop where
  le:s0.le s
  new:s0.aw p=none
  obj:∃x,s.aw p=some [x,.v (.bool bad)]∧Buf s0 s x l
theorem AS.af(s:AS)(o:Nat)(cs:List AV):(s.set o cs).aw o=some cs:=by simp[AS.set]
theorem AS.j0(s:AS)(t e:Nat):(s.bA t e).own t=some e:=by simp[AS.bA]
theorem xe.Ce{s0 s:AS}{p:Nat}{l:List UInt8}{bad:Bool}(h:xe s0 s p l bad){t e:Nat}{m:List UInt8}(b:Bool)(ht:s0.own t=none):xe s0 ((s.bA t e).set p [al m (.own t e),.v (.bool b)]) p m b:=
  ⟨AS.aF (AS.bn h.le ht e) h.new _,h.new,_,AS.af _ _ _,.inr ⟨t,e,rfl,by simp[AS.set,AS.bA],ht⟩⟩
theorem xe.D8{s0 s:AS}{p:Nat}{l:List UInt8}{bad:Bool}(h:xe s0 s p l bad){t:Nat}(ht:s.own t=none):s0.own t=none:=by
  cases h0:s0.own t with
  |none=>rfl
  |some e=>rw[h.le.own t e h0] at ht;cases ht
theorem pz(l:List UInt8):(l.map ae).all AV.one=true:=by simp
theorem pA(n:Nat):ae (UInt8.ofNat n)=.v (.int .u8 (cE .u8 (n:Int))):=by
  rw[gN rfl];simp[ae,IntKind.bits]
theorem Oy(n i:Nat)(hi:i<8):AV.v (.int .u8 (cE .u8 (eU .u64 (n:Int) (8*(i:Int)))))=ae (UInt8.ofNat (n/2^(8*i))):=by
  have e:(8*(i:Int))=((8*i:Nat):Int):=(by omega);rw[e,ir,pA];have :min (8*i) IntKind.u64.bits=8*i:=(by simp[IntKind.bits];omega);rw[this]
theorem xe.one{s0 s:AS}{p:Nat}{bad:Bool}(h:xe s0 s p [] bad){t:Nat}(ht:s.own t=none)(b:UInt8):xe s0 ((s.bA t 0).set p [.sl 1 1 [ae b] (.own t 0),.v (.bool false)]) p [b] false:=
  h.Ce (m:=[b]) false (h.D8 ht)
theorem xe.more{s0 s:AS}{p:Nat}{l:List UInt8}{bad:Bool}(h:xe s0 s p l bad){t e:Nat}(ht:s0.own t=none)(m:List UInt8){n:Nat}(hn:n=l.length+m.length){cs:List AV}(hc:cs=l.map ae++m.map ae):
    xe s0 ((s.bA t e).set p [.sl 1 n cs (.own t e),.v (.bool false)]) p (l++m) false:=by
  subst hn hc;have:=h.Ce (t:=t) (e:=e) (m:=l++m) false ht;simpa[al] using this
end Go.AM
namespace Go.AM
open Go Go.RowKit
variable{P:Program}{Γ:Nat→List AV}{N:Nat}{ops:Array Oper}{K:Env→AS→Prop}{E:Env}{s:AS}
def SA:Op→Bool
  |.call {callee:=.value _,.. }=>true
  |_=>false
theorem Q1:∃f:Program→(Nat→List AV)→Nat→Array Oper→List Oper→(Env→AS→Prop)→Env→AS→Prop,f=AX:=⟨_,rfl⟩
noncomputable def AY:Program→(Nat→List AV)→Nat→Array Oper→List Oper→(Env→AS→Prop)→Env→AS→Prop:=Classical.choose Q1
theorem ay:AY=AX:=Classical.choose_spec Q1
def uH(P:Program)(Γ:Nat→List AV)(N:Nat)(ops:Array Oper)(k:FuncId)(as:List AV)(dst:Option Tmp)(rest:List Oper)(K:Env→AS→Prop)(E:Env)(s:AS):Prop:=
  aj P Γ k as s fun r s'=>AY P Γ N ops rest K (bw E dst r) s'
def xM(P:Program)(Γ:Nat→List AV)(N:Nat)(ops:Array Oper)(fv:AV)(as:List AV)(dst:Option Tmp)(rest:List Oper)(K:Env→AS→Prop)(E:Env)(s:AS):Prop:=
  match fv with
  |.v (.func (.func k) first cg)=>first.isEmpty=true∧cg.isEmpty=true∧ai P k=true∧uH P Γ N ops k as dst rest K E s
  |.qE k cg=>ai P k=true∧uH P Γ N ops k (as++cg) dst rest K E s
  |_=>False
theorem xN(k:FuncId)(as:List AV)(dst:Option Tmp)(rest:List Oper):xM P Γ N ops (.v (.func (.func k) #[] #[])) as dst rest K E s=(ai P k=true∧uH P Γ N ops k as dst rest K E s):=by
  simp[xM]
theorem xO(k:FuncId)(cg as:List AV)(dst:Option Tmp)(rest:List Oper):xM P Γ N ops (.qE k cg) as dst rest K E s=(ai P k=true∧uH P Γ N ops k (as++cg) dst rest K E s):=rfl
theorem ad{k:FuncId}{as:List AV}{dst:Option Tmp}{rest:List Oper}{Q:AV→AS→Prop}(h:aj P Γ k as s Q)(hk:∀r s',Q r s'→AY P Γ N ops rest K (bw E dst r) s'):uH P Γ N ops k as dst rest K E s:=h.mono hk
theorem Gp:AY P Γ N ops [] K E s=K E s:=by rw[ay];rfl
theorem fu{dst:Option Tmp}{op:Op}{ty:TypeId}{pos:String}{after:Array Edge}{rest:List Oper}(_hc:SA op=false):
    AY P Γ N ops ({dst:=dst,op:=op,type:=ty,pos:=pos,after:=after,guard:=none}::rest) K E s=((∀d,dst=some d→d<N)∧cc P Γ (aN Γ E) s (fun r s'=>AY P Γ N ops rest K (bw E dst r) s') op):=by
  simp only[ay,AX]
theorem xP{o:Oper}{rest:List Oper}{j d:Nat}{want t:Bool}(hg:o.guard=some (j,want))(hj:nO ops j=some d)(hE:E d=.v (.bool t)):
    AY P Γ N ops (o::rest) K E s=if t=want then AY P Γ N ops ({o with guard:=none}::rest) K E s else((∀d,o.dst=some d→d<N)∧AY P Γ N ops rest K (bw E o.dst (.v undef)) s):=by
  simp only[ay,AX,hg,hj,hE];split <;>rfl
theorem HT{dst:Option Tmp}(x:Operand){ty:TypeId}{pos:String}{after:Array Edge}{rest:List Oper}:AY P Γ N ops ({dst:=dst,op:=(.move x),type:=ty,pos:=pos,after:=after,guard:=none}::rest) K E s=((∀d,dst=some d→d<N)∧cc P Γ (aN Γ E) s (fun r s'=>AY P Γ N ops rest K (bw E dst r) s') (.move x)):=fu rfl
theorem A4{dst:Option Tmp}(x:Operand){ty:TypeId}{pos:String}{after:Array Edge}{rest:List Oper}:AY P Γ N ops ({dst:=dst,op:=(.assign x),type:=ty,pos:=pos,after:=after,guard:=none}::rest) K E s=((∀d,dst=some d→d<N)∧cc P Γ (aN Γ E) s (fun r s'=>AY P Γ N ops rest K (bw E dst r) s') (.assign x)):=fu rfl
theorem HU{dst:Option Tmp}(a b c:Operand){ty:TypeId}{pos:String}{after:Array Edge}{rest:List Oper}:AY P Γ N ops ({dst:=dst,op:=(.pick a b c),type:=ty,pos:=pos,after:=after,guard:=none}::rest) K E s=((∀d,dst=some d→d<N)∧cc P Γ (aN Γ E) s (fun r s'=>AY P Γ N ops rest K (bw E dst r) s') (.pick a b c)):=fu rfl
theorem D9{dst:Option Tmp}(t:TypeId){ty:TypeId}{pos:String}{after:Array Edge}{rest:List Oper}:AY P Γ N ops ({dst:=dst,op:=(.alloc t),type:=ty,pos:=pos,after:=after,guard:=none}::rest) K E s=((∀d,dst=some d→d<N)∧cc P Γ (aN Γ E) s (fun r s'=>AY P Γ N ops rest K (bw E dst r) s') (.alloc t)):=fu rfl
theorem KI{dst:Option Tmp}(t:TypeId)(x:Operand){ty:TypeId}{pos:String}{after:Array Edge}{rest:List Oper}:AY P Γ N ops ({dst:=dst,op:=(.box t x),type:=ty,pos:=pos,after:=after,guard:=none}::rest) K E s=((∀d,dst=some d→d<N)∧cc P Γ (aN Γ E) s (fun r s'=>AY P Γ N ops rest K (bw E dst r) s') (.box t x)):=fu rfl
theorem Ea{dst:Option Tmp}(t:TypeId)(ps:Array (Nat×Operand)){ty:TypeId}{pos:String}{after:Array Edge}{rest:List Oper}:AY P Γ N ops ({dst:=dst,op:=(.build t ps),type:=ty,pos:=pos,after:=after,guard:=none}::rest) K E s=((∀d,dst=some d→d<N)∧cc P Γ (aN Γ E) s (fun r s'=>AY P Γ N ops rest K (bw E dst r) s') (.build t ps)):=fu rfl
theorem qT{dst:Option Tmp}(t:TypeId)(n:Nat)(ps:Array (Nat×Operand)){ty:TypeId}{pos:String}{after:Array Edge}{rest:List Oper}:AY P Γ N ops ({dst:=dst,op:=(.buildSlice t n ps),type:=ty,pos:=pos,after:=after,guard:=none}::rest) K E s=((∀d,dst=some d→d<N)∧cc P Γ (aN Γ E) s (fun r s'=>AY P Γ N ops rest K (bw E dst r) s') (.buildSlice t n ps)):=fu rfl
theorem HV{dst:Option Tmp}(t:TypeId)(x:Operand){ty:TypeId}{pos:String}{after:Array Edge}{rest:List Oper}:AY P Γ N ops ({dst:=dst,op:=(.load t x),type:=ty,pos:=pos,after:=after,guard:=none}::rest) K E s=((∀d,dst=some d→d<N)∧cc P Γ (aN Γ E) s (fun r s'=>AY P Γ N ops rest K (bw E dst r) s') (.load t x)):=fu rfl
theorem Eb{dst:Option Tmp}(t:TypeId)(x y:Operand){ty:TypeId}{pos:String}{after:Array Edge}{rest:List Oper}:AY P Γ N ops ({dst:=dst,op:=(.store t x y),type:=ty,pos:=pos,after:=after,guard:=none}::rest) K E s=((∀d,dst=some d→d<N)∧cc P Γ (aN Γ E) s (fun r s'=>AY P Γ N ops rest K (bw E dst r) s') (.store t x y)):=fu rfl
theorem vH{dst:Option Tmp}(x:Operand){ty:TypeId}{pos:String}{after:Array Edge}{rest:List Oper}:AY P Γ N ops ({dst:=dst,op:=(.nilCheck x),type:=ty,pos:=pos,after:=after,guard:=none}::rest) K E s=((∀d,dst=some d→d<N)∧cc P Γ (aN Γ E) s (fun r s'=>AY P Γ N ops rest K (bw E dst r) s') (.nilCheck x)):=fu rfl
theorem Ec{dst:Option Tmp}(o:BinOp)(t:TypeId)(x y:Operand)(u:TypeId){ty:TypeId}{pos:String}{after:Array Edge}{rest:List Oper}:AY P Γ N ops ({dst:=dst,op:=(.binOp o t x y u),type:=ty,pos:=pos,after:=after,guard:=none}::rest) K E s=((∀d,dst=some d→d<N)∧cc P Γ (aN Γ E) s (fun r s'=>AY P Γ N ops rest K (bw E dst r) s') (.binOp o t x y u)):=fu rfl
theorem HW{dst:Option Tmp}(o:UnOp)(t:TypeId)(x:Operand){ty:TypeId}{pos:String}{after:Array Edge}{rest:List Oper}:AY P Γ N ops ({dst:=dst,op:=(.unOp o t x),type:=ty,pos:=pos,after:=after,guard:=none}::rest) K E s=((∀d,dst=some d→d<N)∧cc P Γ (aN Γ E) s (fun r s'=>AY P Γ N ops rest K (bw E dst r) s') (.unOp o t x)):=fu rfl
theorem xQ{dst:Option Tmp}(t u:TypeId)(x:Operand){ty:TypeId}{pos:String}{after:Array Edge}{rest:List Oper}:AY P Γ N ops ({dst:=dst,op:=(.convert t u x),type:=ty,pos:=pos,after:=after,guard:=none}::rest) K E s=((∀d,dst=some d→d<N)∧cc P Γ (aN Γ E) s (fun r s'=>AY P Γ N ops rest K (bw E dst r) s') (.convert t u x)):=fu rfl
theorem nh{dst:Option Tmp}(t:TypeId)(x:Operand){ty:TypeId}{pos:String}{after:Array Edge}{rest:List Oper}:AY P Γ N ops ({dst:=dst,op:=(.makeInterface t x),type:=ty,pos:=pos,after:=after,guard:=none}::rest) K E s=((∀d,dst=some d→d<N)∧cc P Γ (aN Γ E) s (fun r s'=>AY P Γ N ops rest K (bw E dst r) s') (.makeInterface t x)):=fu rfl
theorem vI{dst:Option Tmp}(f:Fn)(a b:Array Operand){ty:TypeId}{pos:String}{after:Array Edge}{rest:List Oper}:AY P Γ N ops ({dst:=dst,op:=(.makeFunc f a b),type:=ty,pos:=pos,after:=after,guard:=none}::rest) K E s=((∀d,dst=some d→d<N)∧cc P Γ (aN Γ E) s (fun r s'=>AY P Γ N ops rest K (bw E dst r) s') (.makeFunc f a b)):=fu rfl
theorem sZ{dst:Option Tmp}(t:TypeId)(x y:Operand){ty:TypeId}{pos:String}{after:Array Edge}{rest:List Oper}:AY P Γ N ops ({dst:=dst,op:=(.makeSlice t x y),type:=ty,pos:=pos,after:=after,guard:=none}::rest) K E s=((∀d,dst=some d→d<N)∧cc P Γ (aN Γ E) s (fun r s'=>AY P Γ N ops rest K (bw E dst r) s') (.makeSlice t x y)):=fu rfl
theorem Ed{dst:Option Tmp}(t:TypeId)(x:Operand)(a b c:Option Operand){ty:TypeId}{pos:String}{after:Array Edge}{rest:List Oper}:AY P Γ N ops ({dst:=dst,op:=(.slice t x a b c),type:=ty,pos:=pos,after:=after,guard:=none}::rest) K E s=((∀d,dst=some d→d<N)∧cc P Γ (aN Γ E) s (fun r s'=>AY P Γ N ops rest K (bw E dst r) s') (.slice t x a b c)):=fu rfl
theorem ta{dst:Option Tmp}(t:TypeId)(x:Operand)(i:Nat){ty:TypeId}{pos:String}{after:Array Edge}{rest:List Oper}:AY P Γ N ops ({dst:=dst,op:=(.fieldAddr t x i),type:=ty,pos:=pos,after:=after,guard:=none}::rest) K E s=((∀d,dst=some d→d<N)∧cc P Γ (aN Γ E) s (fun r s'=>AY P Γ N ops rest K (bw E dst r) s') (.fieldAddr t x i)):=fu rfl
theorem Ee{dst:Option Tmp}(t:TypeId)(x:Operand)(i:Nat){ty:TypeId}{pos:String}{after:Array Edge}{rest:List Oper}:AY P Γ N ops ({dst:=dst,op:=(.field t x i),type:=ty,pos:=pos,after:=after,guard:=none}::rest) K E s=((∀d,dst=some d→d<N)∧cc P Γ (aN Γ E) s (fun r s'=>AY P Γ N ops rest K (bw E dst r) s') (.field t x i)):=fu rfl
theorem tb{dst:Option Tmp}(t:TypeId)(x y:Operand){ty:TypeId}{pos:String}{after:Array Edge}{rest:List Oper}:AY P Γ N ops ({dst:=dst,op:=(.indexAddr t x y),type:=ty,pos:=pos,after:=after,guard:=none}::rest) K E s=((∀d,dst=some d→d<N)∧cc P Γ (aN Γ E) s (fun r s'=>AY P Γ N ops rest K (bw E dst r) s') (.indexAddr t x y)):=fu rfl
theorem Ef{dst:Option Tmp}(t:TypeId)(x y:Operand){ty:TypeId}{pos:String}{after:Array Edge}{rest:List Oper}:AY P Γ N ops ({dst:=dst,op:=(.index t x y),type:=ty,pos:=pos,after:=after,guard:=none}::rest) K E s=((∀d,dst=some d→d<N)∧cc P Γ (aN Γ E) s (fun r s'=>AY P Γ N ops rest K (bw E dst r) s') (.index t x y)):=fu rfl
theorem xR{dst:Option Tmp}(x:Operand)(i:Nat){ty:TypeId}{pos:String}{after:Array Edge}{rest:List Oper}:AY P Γ N ops ({dst:=dst,op:=(.extract x i),type:=ty,pos:=pos,after:=after,guard:=none}::rest) K E s=((∀d,dst=some d→d<N)∧cc P Γ (aN Γ E) s (fun r s'=>AY P Γ N ops rest K (bw E dst r) s') (.extract x i)):=fu rfl
theorem xU{dst:Option Tmp}(b:Builtin)(a:Array Operand)(t:Array TypeId){ty:TypeId}{pos:String}{after:Array Edge}{rest:List Oper}:AY P Γ N ops ({dst:=dst,op:=(.call {callee:=.builtin b,args:=a,argTypes:=t}),type:=ty,pos:=pos,after:=after,guard:=none}::rest) K E s=((∀d,dst=some d→d<N)∧cc P Γ (aN Γ E) s (fun r s'=>AY P Γ N ops rest K (bw E dst r) s') (.call {callee:=.builtin b,args:=a,argTypes:=t})):=fu rfl
theorem HX{dst:Option Tmp}{f:Operand}{args:Array Operand}{argTypes:Array TypeId}{ty:TypeId}{pos:String}{after:Array Edge}{rest:List Oper}:
    AY P Γ N ops ({dst:=dst,op:=.call {callee:=.value f,args:=args,argTypes:=argTypes},type:=ty,pos:=pos,after:=after,guard:=none}::rest) K E s=
      ((∀d,dst=some d→d<N)∧xM P Γ N ops (aN Γ E f) (args.toList.map (aN Γ E)) dst rest K E s):=by
  simp only[ay,AX,cc,cL,dj,xM,uH];rfl
theorem Eg{ρ:Operand→AV}{K:AV→AS→Prop}{op:Op}:cc P Γ ρ s K op=match cL P ρ op with |some r=>K r s|none=>dj P Γ ρ s K op:=rfl
section
variable{ρ:Operand→AV}{K:AV→AS→Prop}
theorem nR{T:TypeId}{x:Operand}:dj P Γ ρ s K (.load T x)=(match ρ x with
    |.ptr o off=>(match s.aw o with
      |some cs=>P.cellsOf T≠0∧(match oC P T (cs.drop off) with |some v=>K v s|none=>False)
      |none=>False)
    |_=>False):=rfl
theorem qU{T:TypeId}{a x:Operand}:dj P Γ ρ s K (.store T a x)=(match ρ a with
    |.ptr o off=>(match s.aw o with
      |some cs=>P.cellsOf T≠0∧(ρ x).cells.length=P.cellsOf T∧off+(ρ x).cells.length≤cs.length∧(ρ x).cells.all AV.one=true∧K (.v undef) (s.set o (bp cs off (ρ x).cells))
      |none=>False)
    |_=>False):=rfl
theorem qV{T:TypeId}:dj P Γ ρ s K (.alloc T)=(match bo P T with |some z=>∀o,s.aw o=none→K (.ptr o 0) (s.set o z)|none=>False):=rfl
theorem vJ{T:TypeId}{x:Operand}:dj P Γ ρ s K (.box T x)=∀o,s.aw o=none→K (.ptr o 0) (s.set o (ρ x).cells):=rfl
theorem mE{T:TypeId}{l c:Operand}:dj P Γ ρ s K (.makeSlice T l c)=(match P.underlying T,ρ l,ρ c with
    |some (.slice e),.v (.int _ n),.v (.int _ m)=>
      (match bo P e with
      |some z=>0≤n∧m=n∧P.bytesOf e*n≤2^46∧n≤2^46∧P.cellsOf e≠0∧z.length=P.cellsOf e∧
          ∀o,s.aw o=none→K (.ig o 0 (P.cellsOf e) n.toNat n.toNat) (s.set o (nG (n.toNat*P.cellsOf e) z))
      |none=>False)
    |_,_,_=>False):=rfl
theorem pB{x y:Operand}{T xT:TypeId}:dj P Γ ρ s K (.call {callee:=.builtin .append,args:=#[x,y],argTypes:=#[T,xT]})=(match P.underlying T with
      |some (.slice e)=>
        (match bo P e,im (P.cellsOf e) s (ρ y) with
        |some z,some (m,ds)=>kR P (some xT)=true∧P.cellsOf e≠0∧z.length=P.cellsOf e∧fS P e (ρ x) m ds s K
        |_,_=>DZ P e xT (ρ x) (ρ y) s K)
      |_=>False):=rfl
theorem tc{x y:Operand}{T xT:TypeId}:dj P Γ ρ s K (.call {callee:=.builtin .copy,args:=#[x,y],argTypes:=#[T,xT]})=(match P.underlying T with
      |some (.slice e)=>
        (match im (P.cellsOf e) s (ρ y),ρ x with
        |some (m,ds),.ig o off _ n _=>
          (match s.aw o with
          |some cs=>P.cellsOf e≠0∧ds.all AV.one=true∧off+min m n*P.cellsOf e≤cs.length∧
              K (.v (.int .i64 ((min m n:Nat):Int))) (s.set o (bp cs off (ds.take (min m n*P.cellsOf e))))
          |none=>False)
        |_,_=>False)
      |_=>False):=rfl
theorem pC{e:TypeId}{m:Nat}{ds:List AV}:fS P e (.v (.slice none 0 0)) m ds s K=if m=0 then K (.v (.slice none 0 0)) s
    else m*P.bytesOf e≤2^46∧m≤2^46∧∀t,s.own t=none→K (.sl (P.cellsOf e) m ds (.own t 0)) (s.bA t 0):=rfl
theorem td{e:TypeId}{sz n m:Nat}{cs ds:List AV}:fS P e (.sl sz n cs .full) m ds s K=if m=0 then K (.sl sz n cs .full) s
    else sz=P.cellsOf e∧(n+m)*P.bytesOf e≤2^46∧n+m≤2^46∧ds.all AV.one=true∧∀t,s.own t=none→K (.sl sz (n+m) (cs++ds) (.own t 0)) (s.bA t 0):=rfl
theorem vK{e:TypeId}{sz n m:Nat}{cs ds:List AV}:fS P e (.sl sz n cs .new) m ds s K=if m=0 then K (.sl sz n cs .new) s
    else sz=P.cellsOf e∧(n+m)*P.bytesOf e≤2^46∧n+m≤2^46∧ds.all AV.one=true∧∀t,s.own t=none→K (.sl sz (n+m) (cs++ds) (.own t 0)) (s.bA t 0):=rfl
theorem pD{e:TypeId}{sz n m t g:Nat}{cs ds:List AV}:fS P e (.sl sz n cs (.own t g)) m ds s K=if m=0 then K (.sl sz n cs (.own t g)) s
    else sz=P.cellsOf e∧(n+m)*P.bytesOf e≤2^46∧n+m≤2^46∧ds.all AV.one=true∧s.own t=some g∧K (.sl sz (n+m) (cs++ds) (.own t (g+1))) (s.bA t (g+1)):=rfl
end
theorem Eh{dst:Option Tmp}{op:Op}{ty:TypeId}{pos:String}{after:Array Edge}{j:Nat}{want:Bool}{rest:List Oper}:
    AY P Γ N ops ({dst:=dst,op:=op,type:=ty,pos:=pos,after:=after,guard:=some (j,want)}::rest) K E s=
      (match nO ops j with
      |none=>(∀d,dst=some d→d<N)∧False
      |some d=>match E d with
        |.v (.bool t)=>if t=want then AY P Γ N ops ({dst:=dst,op:=op,type:=ty,pos:=pos,after:=after,guard:=none}::rest) K E s else((∀d,dst=some d→d<N)∧AY P Γ N ops rest K (bw E dst (.v undef)) s)
        |.v (.tuple _)=>(∀d,dst=some d→d<N)∧AY P Γ N ops rest K (bw E dst (.v undef)) s
        |_=>(∀d,dst=some d→d<N)∧False):=by
  cases hj:nO ops j with
  |none=>simp only[ay,AX,hj]
  |some d=>
    simp only;split
    · rename_i t hE;exact xP (o:={dst:=dst,op:=op,type:=ty,pos:=pos,after:=after,guard:=some (j,want)}) rfl hj hE
    · rename_i c hE;simp only[ay,AX,hj,hE]
    · rename_i cY;simp only[ay,AX,hj]
theorem xV:eD []=.eu []:=rfl
theorem xW(a:AV):eD [a]=a:=rfl
theorem xX(a b:AV):eD [a,b]=.eu [a,b]:=rfl
theorem te(a b c:AV):eD [a,b,c]=.eu [a,b,c]:=rfl
theorem vL(a b c d:AV):eD [a,b,c,d]=.eu [a,b,c,d]:=rfl
theorem vM(a b c d e:AV):eD [a,b,c,d,e]=.eu [a,b,c,d,e]:=rfl
def Oz(P:Program)(Γ:Nat→List AV)(N:Nat)(ops:Array Oper)(fl:List Nat)(k:Nat)(L:List Oper)(K:Env→AS→Prop)(E:Env)(s:AS):Prop:=px P Γ N ops (sY fl k L) K E s
theorem KJ:∃f:Program→(Nat→List AV)→Nat→Array Oper→List Nat→Nat→List Oper→(Env→AS→Prop)→Env→AS→Prop,f=Oz:=⟨_,rfl⟩
noncomputable def SE:Program→(Nat→List AV)→Nat→Array Oper→List Nat→Nat→List Oper→(Env→AS→Prop)→Env→AS→Prop:=Classical.choose KJ
theorem axq:SE=Oz:=Classical.choose_spec KJ
theorem cx{fl:List Nat}{k:Nat}:SE P Γ N ops fl k [] K E s=K E s:=by rw[axq];rfl
theorem bW{fl:List Nat}{k:Nat}{o:Oper}{rest:List Oper}:SE P Γ N ops fl k (o::rest) K E s=
    if fl.contains k=true then AY P Γ N ops [o] (SE P Γ N ops fl (k+1) rest K) E s
    else((∀d,o.dst=some d→d<N)∧match bE P Γ ops o E with |some v=>SE P Γ N ops fl (k+1) rest K (bw E o.dst v) s|none=>False):=by rw[axq,ay];rfl
section
variable{Q:Exit→Env→AS→Prop}
theorem awp_reg_seq{id:Nat}{L:List Oper}{y:Code}(h:∀K:Env→AS→Prop,(∀E s,ct P Γ N y Q E s→K E s)→AY P Γ N L.toArray L K E s):ct P Γ N (.seq (.region id L.toArray false) y) Q E s:=
  xJ fun K hK=>by simpa[ay] using h K hK
theorem awp_reg_end{id:Nat}{L:List Oper}(h:∀K:Env→AS→Prop,(∀E s,Q .normal E s→K E s)→AY P Γ N L.toArray L K E s):ct P Γ N (.region id L.toArray false) Q E s:=
  xK fun K hK=>by simpa[ay] using h K hK
theorem bj(hm:P.follows .mixedOrders=true)(fl:List Nat){id:Nat}{L:List Oper}{y:Code}(iZ:rI L.toArray fl=true)(h:∀K:Env→AS→Prop,(∀E s,ct P Γ N y Q E s→K E s)→SE P Γ N L.toArray fl 0 L K E s):
    ct P Γ N (.seq (.region id L.toArray true) y) Q E s:=
  Cb hm fl iZ fun K hK=>by simpa[axq,Oz] using h K hK
theorem fw(hm:P.follows .mixedOrders=true)(fl:List Nat){id:Nat}{L:List Oper}(iZ:rI L.toArray fl=true)(h:∀K:Env→AS→Prop,(∀E s,Q .normal E s→K E s)→SE P Γ N L.toArray fl 0 L K E s):
    ct P Γ N (.region id L.toArray true) Q E s:=
  Cc hm fl iZ fun K hK=>by simpa[axq,Oz] using h K hK
end
end Go.AM
namespace Go.AM
open Go Go.RowKit
def ei(k n:Nat)(st:List UInt8×Bool):List UInt8×Bool:=if st.2=true then st else(st.1++be k n,false)
def bm(k:Nat)(n:Int)(st:List UInt8×Bool):List UInt8×Bool:=if 0≤n∧n<2^(8*k) then ei k n.toNat st else(st.1,true)
def ej(m:List UInt8)(st:List UInt8×Bool):List UInt8×Bool:=if st.2=true then st else(st.1++m,false)
def dz(k:Nat)(m:List UInt8)(st:List UInt8×Bool):List UInt8×Bool:=ej m (bm k m.length st)
abbrev gj(s0 s:AS)(p:Nat)(st:List UInt8×Bool):Prop:=xe s0 s p st.1 st.2
def zQ(x:AV)(l:List UInt8):Prop:=(x=bU∧l=[])∨∃sp,x=al l sp
theorem zQ.nil:zQ bU []:=.inl ⟨rfl,rfl⟩
theorem zQ.mk(l:List UInt8)(sp:Sp):zQ (al l sp) l:=.inr ⟨sp,rfl⟩
theorem aj.any{P:Program}{Γ:Nat→List AV}{f:FuncId}{pre post:List AV}{l:List UInt8}{s:AS}{Q:AV→AS→Prop}(h0:l=[]→aj P Γ f (pre++bU::post) s Q)(h1:aj P Γ f (pre++al l .no::post) s Q):
    aj P Γ f (pre++al l .any::post) s Q:=by
  intro G w vs hs hv;have key:∀(pre:List AV)(vs:List Value),ar G (pre++al l .any::post) vs→(l=[]∧ar G (pre++bU::post) vs)∨ar G (pre++al l .no::post) vs:=by
    intro pre;induction pre with
    |nil=>
      intro vs h;simp only[List.nil_append,ar] at h⊢;obtain⟨u,us,rfl,h1,h2⟩:=h;rcases av.any h1 with⟨h3,_,h4⟩|h3
      · exact .inl ⟨List.eq_nil_of_length_eq_zero h3,u,us,rfl,h4,h2⟩
      · exact .inr ⟨u,us,rfl,h3,h2⟩
    |cons x pre ih=>
      intro vs h;simp only[List.cons_append,ar] at h⊢;obtain⟨u,us,rfl,h1,h2⟩:=h;rcases ih us h2 with⟨h3,h4⟩|h3
      · exact .inl ⟨h3,u,us,rfl,h1,h4⟩
      · exact .inr ⟨u,us,rfl,h1,h3⟩
  rcases key pre vs hv with⟨h3,h4⟩|h3
  · exact h0 h3 G w vs hs h4
  · exact h1 G w vs hs h3
theorem Gq(k n:Nat)(st:List UInt8×Bool):(ei k n st).1.length≤st.1.length+k:=by
  unfold ei;split <;>simp
theorem eP(k:Nat)(n:Int)(st:List UInt8×Bool):(bm k n st).1.length≤st.1.length+k:=by
  unfold bm;split
  · exact Gq ..
  · simp
theorem xY(m:List UInt8)(st:List UInt8×Bool):(ej m st).1.length≤st.1.length+m.length:=by
  unfold ej;split <;>simp
theorem xe.OA{s0 s:AS}{p:Nat}{bad:Bool}(h:xe s0 s p [] bad){t:Nat}(ht:s.own t=none)(m:List UInt8):xe s0 ((s.bA t 0).set p [.sl 1 m.length (m.map ae) (.own t 0),.v (.bool false)]) p m false:=
  h.Ce (m:=m) false (h.D8 ht)
theorem xe.bad{s0 s:AS}{p:Nat}{l:List UInt8}{bad:Bool}(h:xe s0 s p l bad){x:AV}(hx:s.aw p=some [x,.v (.bool bad)])(hb:Buf s0 s x l)(b:Bool):xe s0 (s.set p [x,.v (.bool b)]) p l b:=
  ⟨AS.aF h.le h.new _,h.new,x,AS.af _ _ _,hb⟩
theorem A5(n:Int)(k:Nat)(hk:8*k≤64)(h0:0≤n):(eU .i64 n (8*(k:Int)) != 0)=decide (2^(8*k)≤n):=by
  obtain⟨m,rfl⟩:=Int.eq_ofNat_of_zero_le h0;rw[show(8*(k:Int))=((8*k:Nat):Int) from by omega,ir];have :min (8*k) IntKind.i64.bits=8*k:=(by simp[IntKind.bits];omega);rw[this];have e:((2:Int)^(8*k))=((2^(8*k):Nat):Int):=(by push_cast;rfl);rw[e];have wB:0<2^(8*k):=Nat.pow_pos (by decide);by_cases h:m<2^(8*k)
  · rw[Nat.div_eq_of_lt h];simp;omega
  · have :m/2^(8*k)≠0:=by
      rw[Ne,Nat.div_eq_zero_iff];omega
    have h1:((((m/2^(8*k):Nat):Int) != 0)=true):=by
      rw[bne_iff_ne];omega
    rw[h1];symm;rw[decide_eq_true_eq];omega
theorem gC(n:Nat)(h:n<2^64):cE .u64 (n:Int)=n:=by
  rw[gN rfl];simp[IntKind.bits,Nat.mod_eq_of_lt h]
end Go.AM
namespace Go.AM
open Go Go.RowKit
theorem OB{a:Int}(h:(Lit.int .u64 a).wf=true):∃n:Nat,a=n∧n<2^64:=by
  have:=bounds_u64 h;exact⟨a.toNat,by omega,by omega⟩
theorem SF{a:Int}(h:(Lit.int .u8 a).wf=true):∃n:Nat,a=n∧n<2^8:=by
  have:=bounds_u8 h;exact⟨a.toNat,by omega,by omega⟩
end Go.AM
