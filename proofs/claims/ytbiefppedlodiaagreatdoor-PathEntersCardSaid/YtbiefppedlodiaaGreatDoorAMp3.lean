/- An abstract machine for the model and the rules of its walk, each proved sound over the model; no condition. -/
import Derived.Test.YtbiefppedlodiaaGreatDoorAMp2
import Derived.OpenShut
set_option linter.unusedSimpArgs false
set_option linter.unusedVariables false
namespace Go.AM
open Go Go.RowKit
variable {rd : Option Nat} {P : Program} {Γ : Nat→List AV} {G : Gh} {s : AS} {w : World}
def MA (ops : Array Oper) (D : List Nat) (o : Oper) : Nat :=
  o.after.toList.foldl (fun m e=>if Region.binds .any e then m ||| 2 ^ e.on ||| D.getD e.on 0 else m) 0
def zO (ops : Array Oper) (D : List Nat) : Bool :=
  (List.range ops.size).all fun i =>
    match ops[i]? with
    | some o=>D.getD i 0 == MA ops D o && o.after.toList.all fun e=>!Region.binds .any e || decide (e.on < i)
    | none=>true
def Ge (ops : Array Oper) (D : List Nat) (fl : List Nat) : Bool :=
  (List.range ops.size).all fun j=>(List.range j).all fun i =>
    match ops[i]?,ops[j]? with
    | some x,some y=>(D.getD j 0).testBit i || (x.apart ops y && !(fl.contains i && fl.contains j))
    | _,_=>true
def qz (ops : Array Oper) (fl : List Nat) : Bool :=
  zO ops (Region.before ops).toList && Ge ops (Region.before ops).toList fl
theorem rJ (D : List Nat) (l : Nat) : ∀ (es : List Edge) (m : Nat),(es.foldl (fun m e=>if Region.binds .any e then m ||| 2 ^ e.on ||| D.getD e.on 0 else m) m).testBit l = true →
    m.testBit l = true∨∃ e ∈ es,Region.binds .any e = true∧(l = e.on∨(D.getD e.on 0).testBit l = true)
  | [],m,h=>.inl h
  | e :: es,m,h=>by
    simp only [List.foldl_cons] at h;rcases rJ D l es _ h with h1 | ⟨e',h1,h2⟩
    · split at h1
      · rename_i hb;rw [Nat.testBit_or,Nat.testBit_or] at h1;simp only [Bool.or_eq_true] at h1;rcases h1 with (h1 | h1) | h1
        · exact .inl h1
        · rw [Nat.testBit_two_pow] at h1;exact .inr ⟨e,by simp,hb,.inl (of_decide_eq_true h1).symm⟩
        · exact .inr ⟨e,by simp,hb,.inr h1⟩
      · exact .inl h1
    · exact .inr ⟨e',by simp [h1],h2⟩
theorem iJ {ops : Array Oper} {D : List Nat} (h : zO ops D = true) {i : Nat} {o : Oper} (ho : ops[i]? = some o) :
    (∀ l,(D.getD i 0).testBit l = true→∃ e ∈ o.after.toList,Region.binds .any e = true∧(l = e.on∨(D.getD e.on 0).testBit l = true))∧∀ e ∈ o.after.toList,Region.binds .any e = true→e.on < i:=by
  unfold zO at h;rw [List.all_eq_true] at h;have hi : i < ops.size:=by
    rcases Nat.lt_or_ge i ops.size with h' | h'
    · exact h'
    · simp [Array.getElem?_eq_none h'] at ho
  have:=h i (by simpa using hi);simp only [ho,Bool.and_eq_true,beq_iff_eq,List.all_eq_true] at this;refine ⟨fun l hl=>?_,fun e he hb=>?_⟩
  · rw [this.1] at hl;rcases rJ D l _ _ hl with h1 | h1
    · simp at h1
    · exact h1
  · have:=this.2 e he;simpa [hb] using this
section
variable {N : Nat} {ops : Array Oper}
def left (ops : Array Oper) (listed : Array Bool) : List Nat:=(List.range ops.size).filter fun i=>!listed.getD i true
theorem mem_left {listed : Array Bool} {i : Nat} : i ∈ left ops listed↔i < ops.size∧listed.getD i true = false:=by
  simp [left]
def qA (ops : Array Oper) (fl : List Nat) (i : Nat) : Oper × Bool:=((ops[i]?).getD default,fl.contains i)
theorem wD {listed : Array Bool} {i : Nat} (hl : listed.size = ops.size) (hi : i < ops.size) (h0 : listed.getD i true = false) :
    ∃ L1 L2,left ops listed = L1 ++ i :: L2∧left ops (listed.setIfInBounds i true) = L1 ++ L2∧(∀ x ∈ L1,x < i∧listed.getD x true = false):=by
  have key : ∀ (n k : Nat),k≤i→i < k + n →
      ∃ L1 L2,(List.range' k n).filter (fun i=>!listed.getD i true) = L1 ++ i :: L2∧(List.range' k n).filter (fun j=>!(listed.setIfInBounds i true).getD j true) = L1 ++ L2∧(∀ x ∈ L1,x < i∧listed.getD x true = false):=by
    intro n;induction n with
    | zero=>intro k h1 h2; omega
    | succ n ih =>
      intro k h1 h2;rw [List.range'_succ];by_cases hk : k = i
      · subst hk;refine ⟨[],(List.range' (k + 1) n).filter (fun i=>!listed.getD i true),?_,?_,by simp⟩
        · rw [List.filter_cons_of_pos (by simpa using h0)]; rfl
        · rw [List.filter_cons_of_neg (by simp [hl,hi])];simp only [List.nil_append];apply List.filter_congr;intro x hx;rw [getD_set_ne true (by simp at hx; omega)]
      · obtain ⟨L1,L2,q1,q2,q3⟩:=ih (k + 1) (by omega) (by omega);have cW : (listed.setIfInBounds i true).getD k true = listed.getD k true:=getD_set_ne true (by omega);by_cases hb : listed.getD k true = false
        · refine ⟨k :: L1,L2,?_,?_,?_⟩
          · rw [List.filter_cons_of_pos (by simpa using hb),q1]; rfl
          · rw [List.filter_cons_of_pos (by rw [cW]; simpa using hb),q2]; rfl
          · intro x hx;rcases List.mem_cons.1 hx with rfl | hx
            · exact ⟨by omega,hb⟩
            · exact q3 x hx
        · refine ⟨L1,L2,?_,?_,q3⟩
          · rw [List.filter_cons_of_neg (by simpa using hb),q1]
          · rw [List.filter_cons_of_neg (by rw [cW]; simpa using hb),q2]
  have:=key ops.size 0 (by omega) (by omega);simpa [left,List.range_eq_range'] using this
theorem Bd {fl : List Nat} {Q : Exit→Act→World→Prop} {K : Env→AS→Prop} (iz : qz ops fl = true) :
    ∀ (fuel : Nat) (listed : Array Bool) {G : Gh} {E : Env} {s : AS} {a : Act} {w : World},listed.size = ops.size→(left ops listed).length≤fuel →
      (∀ (i : Nat) (o : Oper),ops[i]? = some o→listed.getD i true = true→∀ e ∈ o.after.toList,Region.binds .any e = true→listed.getD e.on false = true) →
      ov P Γ N ops ((left ops listed).map (qA ops fl)) K E s→Rel Γ N G E s a w →
      (∀ G' E' s' a' w',G.le G'→Rel Γ N G' E' s' a' w'→K E' s'→Q .normal a' w')→wpAnyIn (te rd) 0 P .any ops Q fuel listed a w:=by
  simp only [qz,Bool.and_eq_true] at iz
  obtain ⟨yJ,qB⟩:=iz
  intro fuel
  have rK : ∀ (listed : Array Bool),Region.ready .any ops listed = []→left ops listed = []:=by
    intro listed h
    -- the first that is left could go
    cases hl : left ops listed with
    | nil=>rfl
    | cons i L =>
      exfalso
      have hi : i ∈ left ops listed:=by rw [hl]; simp
      obtain ⟨h1,h2⟩:=mem_left.1 hi
      have Be : ∀ j,j < i→listed.getD j true = true:=by
        intro j hj
        cases CI : listed.getD j true with
        | true=>rfl
        | false =>
          exfalso
          have Gf : j ∈ left ops listed:=mem_left.2 ⟨by omega,CI⟩
          have hs : (left ops listed).Pairwise (· < ·):=by
            unfold left
            exact List.Pairwise.filter _ List.pairwise_lt_range
          rw [hl] at hs Gf
          rcases List.mem_cons.1 Gf with rfl | Gf
          · omega
          · have:=(List.pairwise_cons.1 hs).1 j Gf
            omega
      have ho : ops[i]? = some ops[i]:=by simp [h1]
      have hr : i ∈ Region.ready .any ops listed:=by
        rw [mem_ready]
        refine ⟨h2,_,ho,fun e he hb=>?_⟩
        have bI:=(iJ yJ ho).2 e (by simpa using he) hb
        have:=Be _ bI
        -- both defaults agree where the place is there
        have eL : e.on < listed.size:=by
          rcases Nat.lt_or_ge e.on listed.size with h' | h'
          · exact h'
          · exfalso
            have : listed.getD i true = true:=by
              simp [Array.getElem?_eq_none (show listed.size≤i by omega)]
            rw [h2] at this; cases this
        simpa [eL] using this
      rw [h] at hr
      cases hr
  induction fuel with
  | zero =>
    intro listed G E s a w eL hlen eV h hr hq
    have hl : left ops listed = []:=List.eq_nil_of_length_eq_zero (by omega)
    have jr : Region.ready .any ops listed = []:=by
      cases QE : Region.ready .any ops listed with
      | nil=>rfl
      | cons i L =>
        exfalso
        have : i ∈ Region.ready .any ops listed:=by rw [QE]; simp
        rw [mem_ready] at this
        obtain ⟨h0,o,ho,_⟩:=this
        have : i ∈ left ops listed:=mem_left.2 ⟨(Array.getElem?_eq_some_iff.1 ho).1,h0⟩
        rw [hl] at this
        cases this
    rw [hl] at h
    exact ⟨jr,hq G E s a w (.refl G) hr h⟩
  | succ fuel ih =>
    intro listed G E s a w eL hlen eV h hr hq
    refine ⟨fun jr=>?_,fun i hi=>?_⟩
    · rw [rK listed jr] at h
      exact hq G E s a w (.refl G) hr h
    · obtain ⟨h0,o,ho,bR⟩:=mem_ready.1 hi
      have yK : i < ops.size:=(Array.getElem?_eq_some_iff.1 ho).1
      obtain ⟨L1,L2,q1,q2,q3⟩:=wD eL yK h0
      -- what comes before i is done
      have rL : ∀ (j : Nat) (oj : Oper),ops[j]? = some oj→(∀ e ∈ oj.after.toList,Region.binds .any e = true→listed.getD e.on false = true)→∀ l,((Region.before ops).toList.getD j 0).testBit l = true→listed.getD l false = true:=by
        intro j
        induction j using Nat.strongRecOn with
        | _ j Tt =>
          intro oj zQ hj l hl
          obtain ⟨d1,d2⟩:=iJ yJ zQ
          obtain ⟨e,he,hb,h1⟩:=d1 l hl
          have yB:=hj e he hb
          rcases h1 with rfl | h1
          · exact yB
          · have bI:=d2 e he hb
            have Tu : e.on < ops.size:=by
              have:=(Array.getElem?_eq_some_iff.1 zQ).1
              omega
            have CQ : ops[e.on]? = some ops[e.on]:=by simp [Tu]
            refine Tt e.on bI _ CQ (eV e.on _ CQ ?_) l h1
            have : e.on < listed.size:=by omega
            simpa [this] using yB
      have zR : ∀ x ∈ L1,fb ops ((ops[x]?).getD default) o∧¬ (fl.contains x = true∧fl.contains i = true):=by
        intro x hx
        obtain ⟨ZT,L5⟩:=q3 x hx
        unfold Ge at qB
        rw [List.all_eq_true] at qB
        have h1:=qB i (by simpa using yK)
        rw [List.all_eq_true] at h1
        have h2:=h1 x (by simpa using ZT)
        have Tv : ops[x]? = some (ops[x]'(by omega)):=by simp
        rw [Tv,ho] at h2
        simp only [Bool.or_eq_true,Bool.and_eq_true,Bool.not_eq_true'] at h2
        rcases h2 with h2 | ⟨h2,h3⟩
        · exfalso
          have:=rL i o ho (fun e he hb=>bR e (by simpa using he) hb) x h2
          have Tw : x < listed.size:=by omega
          simp [Tw] at this L5
          rw [L5] at this; cases this
        · refine ⟨by rw [Tv]; exact h2,fun hc=>?_⟩
          rw [hc.1,hc.2] at h3
          cases h3
      have ck : ∀ {G' : Gh} {E' : Env} {s' : AS} {a' : Act} {w' : World},G.le G'→ov P Γ N ops ((L1 ++ L2).map (qA ops fl)) K E' s'→Rel Γ N G' E' s' a' w'→wpAnyIn (te rd) 0 P .any ops Q fuel (listed.setIfInBounds i true) a' w':=by
        intro G' E' s' a' w' hle hA Bc
        refine ih (listed.setIfInBounds i true) (by simpa using eL) ?_ ?_ ?_ Bc (fun uB jq iq yH vn k1 k2 k3=>hq uB jq iq yH vn (hle.trans k1) k2 k3)
        · rw [q2]
          rw [q1] at hlen
          simp at hlen ⊢
          omega
        · intro j oj zQ hj e he hb
          by_cases Eu : j = i
          · subst Eu
            rw [ho] at zQ; cases zQ
            exact getD_set_true (bR e (by simpa using he) hb)
          · rw [getD_set_ne true (Ne.symm Eu)] at hj
            exact getD_set_true (eV j oj zQ hj e he hb)
        · rw [q2]; exact hA
      rw [q1] at h
      simp only [List.map_append,List.map_cons] at h ck
      have gC : qA ops fl i = (o,fl.contains i):=by simp [qA,ho]
      rw [gC] at h
      cases hf : fl.contains i with
      | false =>
        rw [hf] at h
        have mb : ∀ x ∈ L1.map (qA ops fl),fb ops x.1 o:=by
          intro x hx
          obtain ⟨j,hj,rfl⟩:=List.mem_map.1 hx
          exact (zR j hj).1
        obtain ⟨hd,v,hv⟩:=wB _ mb h hr
        have h1:=kI _ mb hv h
        have hX : ov P Γ N ops ((o,false) :: (L1.map (qA ops fl) ++ L2.map (qA ops fl))) K E s:=by
          simp only [ov,Bool.false_eq_true,if_false,hv]
          exact ⟨hd,h1⟩
        have h2:=EO hX
        exact iS (L:=[]) (K:=fun E s=>ov P Γ N ops (L1.map (qA ops fl) ++ L2.map (qA ops fl)) K E s) ho h2 hr (fun G' E' s' a' w' k1 k2 k3=>ck k1 k3 k2)
      | true =>
        rw [hf] at h
        have mb : ∀ x ∈ L1.map (qA ops fl),fb ops x.1 o∧x.2 = false:=by
          intro x hx
          obtain ⟨j,hj,rfl⟩:=List.mem_map.1 hx
          refine ⟨(zR j hj).1,?_⟩
          cases hc : fl.contains j with
          | false=>exact hc
          | true=>exact absurd ⟨hc,hf⟩ (zR j hj).2
        have h2:=pS _ mb h
        exact iS (L:=[]) (K:=fun E s=>ov P Γ N ops (L1.map (qA ops fl) ++ L2.map (qA ops fl)) K E s) ho h2 hr (fun G' E' s' a' w' k1 k2 k3=>ck k1 k3 k2)
def marked (ops : Array Oper) (fl : List Nat) : List (Oper × Bool):=(List.range ops.size).map (qA ops fl)
theorem tg : ∀ (L : List (Oper × Bool)) {K : Env→AS→Prop} {E : Env} {s : AS},ov P Γ N ops L K E s→ov P Γ N ops L (fun E' s'=>K E' s'∧∀ i,i ∉ ct (L.map (·.1))→E' i = E i) E s
  | [],K,E,s,h=>⟨h,fun _ _=>rfl⟩
  | (o,vQ) :: L,K,E,s,h=>by
    have ir : ∀ i,i ∉ ct (((o,vQ) :: L).map (·.1))→i ∉ ct (L.map (·.1))∧o.dst≠some i:=by
      intro i hi;simp only [ct,List.map_cons,List.filterMap_cons] at hi;refine ⟨fun hm=>hi ?_,fun e=>hi (by simp [e])⟩;simp only [ct] at hm;split
      · exact hm
      · exact List.mem_cons_of_mem _ hm
    simp only [ov] at h ⊢;split at h
    · rename_i he;rw [if_pos he];refine cJ _ (fun E' s' hE=>?_) (cR h);refine rI L (fun jq iq CR=>⟨CR.1,fun i hi=>?_⟩) (tg L hE.1);obtain ⟨m1,m2⟩:=ir i hi;rw [CR.2 i m1,hE.2 i m2]
    · rename_i he;rw [if_neg he];refine ⟨h.1,?_⟩;have h:=h.2;split at h
      · refine rI L (fun jq iq CR=>⟨CR.1,fun i hi=>?_⟩) (tg L h);obtain ⟨m1,m2⟩:=ir i hi;rw [CR.2 i m1,cp m2]
      · exact h
theorem nD {E : Env} {Q : Exit→Env→AS→Prop} (hm : P.follows .mixedOrders = true) (fl : List Nat) {id : Nat} (iz : qz ops fl = true) (h : ov P Γ N ops (marked ops fl) (fun E' s'=>Q .normal E' s') E s) :
    ch P Γ N (.region id ops true) Q E s:=by
  intro G a w hr;refine wpIn_region_any hm ?_;have CT : left ops (Array.replicate ops.size false) = List.range ops.size:=by
    unfold left;rw [List.filter_eq_self];intro i hi;have : i < ops.size:=(by simpa using hi);simp [this]
  have Bc : Rel Γ N G E s a w.drew:=⟨hr.st.drew,hr.size,hr.tmps,hr.defers⟩;refine Bd iz ops.size (Array.replicate ops.size false) (by simp) (by rw [CT]; simp) ?_ (by rw [CT]; exact tg _ h) Bc ?_
  · intro i o ho hl;have : i < ops.size:=(Array.getElem?_eq_some_iff.1 ho).1;simp [this] at hl
  · intro G' E' s' a' w' h1 h2 h3;refine ⟨G',E',s',h1,h2,h3.1,fun i hi=>h3.2 i fun hm=>hi ?_⟩;have : (marked ops fl).map (·.1) = ops.toList:=by
      apply List.ext_getElem?;intro j;simp only [marked,List.getElem?_map];by_cases hj : j < ops.size
      · simp [hj,qA]
      · simp [hj]
    have HA : i ∈ ct ((marked ops fl).map (·.1)):=hm;rw [this] at HA;exact HA
end
end Go.AM
namespace Go.AM
open Go Go.RowKit
variable {rd : Option Nat} {P : Program} {Γ : Nat→List AV} {G : Gh} {s : AS} {w : World}
def bz (args : List AV) : Env:=fun i=>args.getD i (.v undef)
def cU (P : Program) (E : Env) (s : AS) : ResultVar→Option AV
  | .tmp t=>some (E t)
  | .cell a T =>
    match E a with
    | .ptr o off =>
      match s.av o with
      | some cs=>if P.cellsOf T = 0 then none else nB P T (cs.drop off)
      | none=>none
    | _=>none
def bD (P : Program) (E : Env) (s : AS) : List ResultVar→Option (List AV)
  | []=>some []
  | r :: rs=>match cU P E s r,bD P E s rs with | some v,some vs=>some (v :: vs) | _,_=>none
def ea : List AV→AV
  | [r]=>r
  | rs=>.dX rs
def bt (P : Program) (rs : List ResultVar) (bS : AV→AS→Prop) (E : Env) (s : AS) : Prop :=
  match bD P E s rs with
  | some vs=>∃ r s',(ea vs).aB r∧s'.le s∧bS r s'
  | none=>False
def b8 (P : Program) (rs : List ResultVar) (bS : AV→AS→Prop) : Exit→Env→AS→Prop
  | .normal,E,s=>bt P rs bS E s
  | .ret,E,s=>bt P rs bS E s
  | _,_,_=>False
def I8 (tmps : Array Value) : ResultVar→Sem Value
  | .tmp t=>pure (tmps.getD t undef)
  | .cell b t=>do loadVar t (← asAddr (tmps.getD b undef))
theorem kJ (fn : Func) (tmps : Array Value) : results fn tmps = (do let vs ← fn.results.mapM (I8 tmps); pure (if h : vs.size = 1 then vs[0] else .tuple vs)):=by
  unfold results;have : (fun x : ResultVar=>(match x with | .tmp t=>pure (tmps.getD t undef) | .cell a t=>(do loadVar t (← asAddr (tmps.getD a undef)) : Sem Value) : Sem Value)) = I8 tmps:=by
    funext x; cases x <;> rfl
  rw [← this];rfl
theorem I9 {N : Nat} {E : Env} {a : Act} (hr : Rel Γ N G E s a w) {rv : ResultVar} {v : AV} (h : cU P E s rv = some v) :
    ∃ z,(I8 a.tmps rv).run P w = .ok z w∧au G v z:=by
  cases rv with
  | tmp t=>simp only [cU] at h; cases h; exact ⟨_,rfl,hr.tmps t⟩
  | cell b T =>
    simp only [cU] at h;have hb:=hr.tmps b;split at h
    · rename_i o off hE;rw [hE] at hb;split at h
      · rename_i cs Es;split at h
        · cases h
        · rename_i hz;simp only [au] at hb;obtain ⟨mH,ZU,hu⟩:=hb;obtain ⟨b',vs,h1,h2,h3,h4⟩:=hr.st.av o cs Es;rw [ZU] at h1; cases h1;obtain ⟨z,q1,q2⟩:=mL (w:=w) h hz (h2.drop off) (b:=mH) (off:=off) (fun j u hj=>by
            rw [cr];rw [List.getElem?_drop] at hj;exact (h4 _ _ hj).1)
          refine ⟨z,?_,q2⟩;simp only [I8];rw [hu];simp [asAddr,q1]
      · cases h
    · cases h
theorem pq {N : Nat} {E : Env} {a : Act} (hr : Rel Γ N G E s a w) : ∀ {rs : List ResultVar} {vs : List AV},bD P E s rs = some vs →
    ∃ zs : List Value,(rs.mapM (I8 a.tmps)).run P w = .ok zs w∧aq G vs zs
  | [],vs,h=>by simp only [bD] at h; cases h; exact ⟨[],by simp,by simp [aq]⟩
  | r :: rs,vs,h=>by
    simp only [bD] at h;split at h
    · rename_i v L0 h1 h2;cases h;obtain ⟨z,q1,q2⟩:=I9 hr h1;obtain ⟨zs,q3,q4⟩:=pq hr h2;refine ⟨z :: zs,?_,by simp only [aq]; exact ⟨z,zs,rfl,q2,q4⟩⟩;simp only [List.mapM_cons,Sem.run_bind,q1,Result.andThen_ok,q3,Sem.run_pure]
    · cases h
theorem qC {vs : List AV} {zs : List Value} (h : aq G vs zs) : au G (ea vs) (if h : zs.toArray.size = 1 then zs.toArray[0] else .tuple zs.toArray):=by
  have hl:=h.length;match vs,zs,h with
  | [],[],h=>simp only [ea,au]; exact ⟨[],rfl,h⟩
  | [v],[z],h =>
    simp only [aq] at h;obtain ⟨u,us,h1,h2,_⟩:=h;cases h1;simpa [ea] using h2
  | v :: v' :: vs,z :: z' :: zs,h =>
    simp only [ea,au];exact ⟨z :: z' :: zs,by simp,h⟩
  | [],z :: zs,h=>simp at hl
  | v :: vs,[],h=>simp at hl
  | [v],z :: z' :: zs,h=>simp at hl
  | v :: v' :: vs,[z],h=>simp at hl
theorem HB {f : FuncId} {fn : Func} {c : Code} {args : List AV} {bS : AV→AS→Prop} {s : AS} (hf : P.funcs[f]? = some fn) (hb : fn.body = some c) (hn : args.length≤fn.ntmps)
    (h : ch P Γ fn.ntmps c (b8 P fn.results.toList bS) (bz args) s) : ai P Γ f args s bS:=by
  intro G w vs hs hv;have OW:=hv.length;refine calls_of_wp hf hb ?_;have wF : Rel Γ fn.ntmps (G.cA []) (bz args) s { tmps:=vs.toArray ++ Array.replicate (fn.ntmps - vs.toArray.size) undef,defers:=[] } w:=by
    refine ⟨hs.cA,by simp; omega,fun i=>?_,rfl⟩;simp only [bz];by_cases hi : i < args.length
    · obtain ⟨u,h1,h2⟩:=hv.getD i hi;have aX : i < vs.length:=(by omega);rw [Array.getD_eq_getD_getElem?,Array.getElem?_append_left (by simpa using aX)];simp only [List.getElem?_toArray,h1,Option.getD_some];exact au.cA _ _ h2
    · have e1 : args.getD i (.v undef) = .v undef:=(by simp [List.getD,List.getElem?_eq_none (Nat.le_of_not_lt hi)]);rw [e1,Array.getD_eq_getD_getElem?,Array.getElem?_append_right (by simp; omega)];simp only [au];cases hh : (Array.replicate (fn.ntmps - vs.toArray.size) undef)[i - vs.toArray.size]? with
      | none=>rfl
      | some u =>
        rw [Array.getElem?_replicate] at hh;split at hh
        · cases hh; rfl
        · cases hh
  refine wpIn_wide.1 (wpIn_mono (F:=te none) (n:=0) (h _ _ w wF) ?_);rintro e a' w' ⟨G',E',s',h1,h2,h3,h4⟩;have fin : bt P fn.results.toList bS E' s'→bodyPost P fn (fun e w'=>∃ G' r v s',e = .returned v∧G.le G'∧aN Γ G' s' w'∧au G' r v∧bS r s') .normal a' w':=by
    intro hF;unfold bt at hF;split at hF
    · rename_i L0 Er;obtain ⟨r,s2,q1,q2,q3⟩:=hF;obtain ⟨zs,r1,r2⟩:=pq h2 Er;refine ⟨h2.defers.trans h1.df,if h : zs.toArray.size = 1 then zs.toArray[0] else .tuple zs.toArray,?_,G'.cA G.df,r,_,s2,rfl,Gh.wj h1,(h2.st.mono q2).cA,au.cA _ _ (q1 _ _ (qC r2)),q3⟩;rw [kJ,Array.mapM_eq_mapM_toList];simp only [Sem.run_bind,Sem.run_map,r1,Result.andThen_ok,Sem.run_pure]
    · exact hF.elim
  cases e <;> simp only [b8] at h3;case normal=>exact fin h3
  case ret=>exact fin h3
def gK (Γ : Nat→List AV) (N : Nat) (E : Env) (s : AS) (E' : Env) (s' : AS) : Prop :=
  ∀ (G : Gh) (a : Act) (w : World),Rel Γ N G E s a w→∃ G',G.le G'∧Rel Γ N G' E' s' a w
theorem gK.freeze {N : Nat} {E : Env} {s : AS} {d o off sz n cap : Nat} {cs : List AV} (hE : E d = .iv o off sz n cap) (ho : s.av o = some cs) (hle : off + n * sz≤cs.length) :
    gK Γ N E s (aF E d (.sl sz n ((cs.drop off).take (n * sz)) .no)) (s.drop o):=by
  intro G a w hr;obtain ⟨b,vs,h1,h2,h3,h4,h5⟩:=hr.st.freeze ho;refine ⟨_,h3,h5,hr.size,fun i=>?_,hr.defers.trans h3.df.symm⟩;simp only [aF];split
  · rename_i e;subst e;have:=hr.tmps i;rw [hE] at this;simp only [au] at this;obtain ⟨b',k1,k2,k3⟩:=this;rw [h1] at k1; cases k1;have hl:=h2.length;rw [k2];simp only [au];refine .inl ⟨b,off,cap,(vs.drop off).take (n * sz),rfl,by simp; omega,k3,aq.mono h3 _ _ ((h2.drop _).take _),?_,trivial⟩;have:=(h4.drop off).take (n * sz);simpa using this
  · exact au.mono h3 _ _ (hr.tmps i)
theorem mi {N : Nat} {E : Env} {Q : Exit→Env→AS→Prop} {id : Nat} {ops : Array Oper}
    (h : AX P Γ N ops ops.toList (fun E' s'=>∃ jq iq,gK Γ N E' s' jq iq∧(∀ i,i ∉ ct ops.toList→jq i = E' i)∧Q .normal jq iq) E s) : ch P Γ N (.region id ops false) Q E s:=by
  intro G a w hr;refine wpIn_region (kG ops.toList _ ?_ (dy _ h) hr ?_)
  · apply List.ext_getElem?;intro i;simp only [List.getElem?_map];by_cases hi : i < ops.size
    · simp [hi]
    · simp [hi]
  · intro G' E' s' a' w' h1 h2 h3;obtain ⟨⟨jq,iq,k1,k2,k3⟩,k4⟩:=h3;obtain ⟨uB,q1,q2⟩:=k1 G' a' w' h2;exact ⟨uB,jq,iq,h1.trans q1,q2,k3,fun i hi=>by rw [k2 i hi,k4 i hi]⟩
theorem AV.cO {a b c d : AV} (h : a.aB c) (k : b.aB d) : (AV.dX [a,b]).aB (.dX [c,d]):=by
  intro G v hv;simp only [au,aq] at hv ⊢;obtain ⟨vs,rfl,u,us,rfl,h1,u',vg,rfl,h2,rfl⟩:=hv;exact ⟨_,rfl,u,_,rfl,h G u h1,u',_,rfl,k G u' h2,rfl⟩
theorem AV.iK {a b c d e f : AV} (h : a.aB d) (k : b.aB e) (l : c.aB f) : (AV.dX [a,b,c]).aB (.dX [d,e,f]):=by
  intro G v hv;simp only [au,aq] at hv ⊢;obtain ⟨vs,rfl,u,us,rfl,h1,u',vg,rfl,h2,u'',xfl,rfl,h3,rfl⟩:=hv;exact ⟨_,rfl,u,_,rfl,h G u h1,u',_,rfl,k G u' h2,u'',_,rfl,l G u'' h3,rfl⟩
end Go.AM
namespace Go.AM
open Go Go.RowKit
variable {P : Program} {Γ : Nat→List AV} {s : AS}
theorem aa {f : FuncId} {fn : Func} {c : Code} {rs : Array ResultVar} {N : Nat} {args : List AV} {bS : AV→AS→Prop} {s : AS} (hf : P.funcs[f]? = some fn) (hb : fn.body = some c) (hN : fn.ntmps = N) (L6 : fn.results = rs) (hn : args.length≤N)
    (h : ch P Γ N c (b8 P rs.toList bS) (bz args) s) : ai P Γ f args s bS:=by
  subst hN L6;exact HB hf hb hn h
theorem AS.gw (s : AS) (o : Nat) (cs : List AV) : (s.set o cs).av = aF s.av o (some cs):=rfl
theorem AS.zS (s : AS) (t e : Nat) : (s.bC t e).av = s.av:=rfl
theorem AS.pr (s : AS) (o : Nat) : (s.drop o).av = aF s.av o none:=rfl
theorem AS.Gg (s : AS) (o : Nat) (cs : List AV) : (s.set o cs).own = s.own:=rfl
theorem AS.uC (s : AS) (t e : Nat) : (s.bC t e).own = aF s.own t (some e):=rfl
theorem AS.CU (s : AS) (o : Nat) : (s.drop o).own = s.own:=rfl
theorem AS.set_set (s : AS) (o : Nat) (a b : List AV) : (s.set o a).set o b = s.set o b:=by
  simp only [AS.set,AS.mk.injEq,and_true];funext i;simp only [aF];split <;> rfl
def rM (fl : List Nat) : Nat→List Oper→List (Oper × Bool)
  | _,[]=>[]
  | k,o :: L=>(o,fl.contains k) :: rM fl (k + 1) L
theorem zT (fl : List Nat) : ∀ (L : List Oper) (k i : Nat),(rM fl k L)[i]? = (L[i]?).map fun o=>(o,fl.contains (k + i))
  | [],k,i=>by simp [rM]
  | o :: L,k,0=>by simp [rM]
  | o :: L,k,i + 1=>by
    simp only [rM,List.getElem?_cons_succ];rw [zT fl L (k + 1) i,show k + 1 + i = k + (i + 1) from by omega]
theorem zU (ops : Array Oper) (fl : List Nat) : marked ops fl = rM fl 0 ops.toList:=by
  apply List.ext_getElem?;intro i;rw [zT];simp only [marked,List.getElem?_map,Nat.zero_add];by_cases hi : i < ops.size
  · simp [hi,qA]
  · simp [hi]
section
variable {N : Nat} {E : Env} {Q : Exit→Env→AS→Prop}
theorem awp_seq_k {x y : Code} (h : ∀ K : Env→AS→Prop,(∀ E s,ch P Γ N y Q E s→K E s)→ch P Γ N x (az K Q) E s) : ch P Γ N (.seq x y) Q E s :=
  ke (h _ fun _ _ h=>h)
theorem wG {id : Nat} {ops : Array Oper} {y : Code} (h : ∀ K : Env→AS→Prop,(∀ E s,ch P Γ N y Q E s→K E s)→AX P Γ N ops ops.toList K E s) : ch P Γ N (.seq (.region id ops false) y) Q E s :=
  ke (mS (h _ fun _ _ h=>h))
theorem wI {id : Nat} {ops : Array Oper} (h : ∀ K : Env→AS→Prop,(∀ E s,Q .normal E s→K E s)→AX P Γ N ops ops.toList K E s) : ch P Γ N (.region id ops false) Q E s :=
  mS (h _ fun _ _ h=>h)
theorem awp_cond_k {c : Operand} {x y : Code} (h : ∀ X Y : Prop,(ch P Γ N x Q E s→X)→(ch P Γ N y Q E s→Y)→match aL Γ E c with | .v (.bool t)=>(t = true→X)∧(t = false→Y) | _=>False) : ch P Γ N (.cond c x y) Q E s:=by
  have h1:=h _ _ id id;split at h1
  · rename_i t hc; exact wA hc h1.1 h1.2
  · exact h1.elim
theorem Bf (hm : P.follows .mixedOrders = true) (fl : List Nat) {id : Nat} {ops : Array Oper} {y : Code} (iz : qz ops fl = true) (h : ∀ K : Env→AS→Prop,(∀ E s,ch P Γ N y Q E s→K E s)→ov P Γ N ops (rM fl 0 ops.toList) K E s) :
    ch P Γ N (.seq (.region id ops true) y) Q E s :=
  ke (nD hm fl iz (by rw [zU]; exact h _ fun _ _ h=>h))
theorem Bg (hm : P.follows .mixedOrders = true) (fl : List Nat) {id : Nat} {ops : Array Oper} (iz : qz ops fl = true) (h : ∀ K : Env→AS→Prop,(∀ E s,Q .normal E s→K E s)→ov P Γ N ops (rM fl 0 ops.toList) K E s) :
    ch P Γ N (.region id ops true) Q E s :=
  nD hm fl iz (by rw [zU]; exact h _ fun _ _ h=>h)
end
end Go.AM
namespace Go.AM
open Go Go.RowKit
section
variable {k : IntKind}
theorem js (h : k.signed = false) (x : Int) : k.wrap x = x % (2 ^ k.bits : Nat):=by
  cases k <;> simp [IntKind.signed] at h <;> simp [IntKind.wrap,IntKind.bits,IntKind.signed] <;> omega
theorem th (h : k.signed = false) (a b : Nat) : dP k a b = ((a + b) % 2 ^ k.bits : Nat):=by
  rw [dP,js h]; push_cast; rfl
theorem Bh (h : k.signed = false) (a b : Nat) : iF k a b = ((a * b) % 2 ^ k.bits : Nat):=by
  rw [iF,js h]; push_cast; rfl
theorem zV (h : k.signed = false) (a b : Nat) (hb : b≤a) (ha : a < 2 ^ k.bits) : dC k a b = ((a - b : Nat) : Int):=by
  rw [dC,js h,show (a : Int) - b = ((a - b : Nat) : Int) from by omega,← Int.natCast_emod,Nat.mod_eq_of_lt (by omega)]
theorem wJ (a : Nat) (n : Nat) : BitVec.ofInt n (a : Int) = BitVec.ofNat n a:=by simp
theorem qD (h : k.signed = false) (a b : Nat) (ha : a < 2 ^ k.bits) (hb : b < 2 ^ k.bits) : ll k a b = ((a &&& b : Nat) : Int):=by
  rw [ll,js h,wJ,wJ,BitVec.toNat_and,BitVec.toNat_ofNat,BitVec.toNat_ofNat,Nat.mod_eq_of_lt ha,Nat.mod_eq_of_lt hb,← Int.natCast_emod,Nat.mod_eq_of_lt (Nat.lt_of_le_of_lt Nat.and_le_left ha)]
theorem zW (h : k.signed = false) (a b : Nat) (ha : a < 2 ^ k.bits) (hb : b < 2 ^ k.bits) : EA k a b = ((a ||| b : Nat) : Int):=by
  rw [EA,js h,wJ,wJ,BitVec.toNat_or,BitVec.toNat_ofNat,BitVec.toNat_ofNat,Nat.mod_eq_of_lt ha,Nat.mod_eq_of_lt hb,← Int.natCast_emod,Nat.mod_eq_of_lt (Nat.or_lt_two_pow ha hb)]
theorem EP (h : k.signed = false) (a b : Nat) (ha : a < 2 ^ k.bits) (hb : b < 2 ^ k.bits) : CA k a b = ((a ^^^ b : Nat) : Int):=by
  rw [CA,js h,wJ,wJ,BitVec.toNat_xor,BitVec.toNat_ofNat,BitVec.toNat_ofNat,Nat.mod_eq_of_lt ha,Nat.mod_eq_of_lt hb,← Int.natCast_emod,Nat.mod_eq_of_lt (Nat.xor_lt_two_pow ha hb)]
theorem qE (h : k.signed = false) (a c : Nat) : jl k a c = ((a * 2 ^ (min c k.bits)) % 2 ^ k.bits : Nat):=by
  rw [jl,js h]; push_cast; simp
theorem gL (a c : Nat) : eC k a c = ((a / 2 ^ (min c k.bits) : Nat) : Int):=by
  rw [eC,Int.fdiv_eq_ediv_of_nonneg _ (Int.le_of_lt (Int.pow_pos (by decide)))]; push_cast; simp
theorem gh (h : k.signed = false) (a : Nat) : cB k a = ((a % 2 ^ k.bits : Nat) : Int):=by
  rw [cB,js h]; push_cast; rfl
theorem QF (h : k.signed = false) (a : Nat) (ha : a < 2 ^ k.bits) : IU k a = ((2 ^ k.bits - 1 - a : Nat) : Int):=by
  have e : BitVec.ofInt k.bits (if k.signed = true then -1 else k.max) = BitVec.allOnes k.bits:=by
    cases k <;> simp [IntKind.signed] at h <;> rfl
  have : (BitVec.allOnes k.bits ^^^ BitVec.ofNat k.bits a).toNat = 2 ^ k.bits - 1 - a:=by
    rw [BitVec.allOnes_xor,BitVec.toNat_not,BitVec.toNat_ofNat,Nat.mod_eq_of_lt ha]
  rw [IU,js h,e,wJ,this,← Int.natCast_emod,Nat.mod_eq_of_lt (by omega)]
theorem Ja (h : k.signed = false) (a b : Nat) (ha : a < 2 ^ k.bits) : kA k a b = ((a / b : Nat) : Int):=by
  rw [kA,js h,show (a : Int).tdiv b = ((a / b : Nat) : Int) from (Int.ofNat_tdiv a b).symm,← Int.natCast_emod,Nat.mod_eq_of_lt (Nat.lt_of_le_of_lt (Nat.div_le_self a b) ha)]
theorem kK (a b : Nat) : il a b = ((a % b : Nat) : Int):=by rw [il]; exact (Int.ofNat_tmod a b).symm
theorem eE {a b : Int} (h : -9223372036854775808≤a + b∧a + b≤9223372036854775807) : dP .i64 a b = a + b:=IntWalk.i64_in _ h
theorem cf {a b : Int} (h : -9223372036854775808≤a - b∧a - b≤9223372036854775807) : dC .i64 a b = a - b:=IntWalk.i64_in _ h
theorem dJ {a b : Int} (h : -9223372036854775808≤a * b∧a * b≤9223372036854775807) : iF .i64 a b = a * b:=IntWalk.i64_in _ h
theorem zX {a : Int} (h : -9223372036854775808≤a∧a≤9223372036854775807) : cB .i64 a = a:=IntWalk.i64_in _ h
end
variable {P : Program}
def G0 (w : World) : Gh:={ ro:=fun b j=>w.cell? ⟨b,j,none⟩,obj:=fun _=>none,tok:=fun _ _=>none,no:=0,nt:=0,B:=w.heap.size,w0:=w,df:=[] }
def s0 : AS:=⟨fun _=>none,fun _=>none⟩
theorem aN.start (Γ : Nat→List AV) (w : World) (hg : ∀ g,∃ vs,aq (G0 w) (Γ g) vs∧fR (G0 w) g 0 vs) : aN Γ (G0 w) s0 w where
  ro _ _ _ h:=h
  av o cs h:=by simp [s0] at h
  cK o b h:=by simp [G0] at h
  inj o o' b h:=by simp [G0] at h
  own t e h:=by simp [s0] at h
  cx t e t' e' b st en vN vO h:=by simp [s0] at h
  bJ t e h:=by simp [s0] at h
  cn o _:=rfl
  bU t _ _:=rfl
  below:=Below.refl _ _
  others:=cX.refl _
  base:=Nat.le_refl _
  gA:=hg
  soft b c T lo hi hb hc:=by
    rcases hb with ⟨o,h⟩ | ⟨t,e,r,h,_⟩
    · simp [G0] at h
    · simp [s0] at h
theorem ai.start {Γ : Nat→List AV} {f : FuncId} {args : List AV} {bS : AV→AS→Prop} (h : ai P Γ f args s0 bS) {w : World} {vs : List Value} (hv : aq (G0 w) args vs)
    (hg : ∀ g,∃ vs,aq (G0 w) (Γ g) vs∧fR (G0 w) g 0 vs) (hp : ∀ r s',bS r s'→r = .v (.bool true)) :
    Calls P f vs.toArray w fun e w'=>e = .returned (.bool true)∧Below w.heap.size w w':=by
  refine (h (G0 w) w vs (aN.start Γ w hg) hv).mono ?_;rintro e w' ⟨G',r,v,s',rfl,h1,h2,h3,h4⟩;have hr:=hp r s' h4;subst hr;simp only [au] at h3;subst h3;refine ⟨rfl,?_⟩;have hb:=h2.below;rw [h1.B,h1.w0] at hb;exact hb
def Γ0 : Nat→List AV:=fun _=>[]
end Go.AM
namespace Go.AM
open Go Go.RowKit
def be : Nat→Nat→List UInt8
  | 0,_=>[]
  | k + 1,n=>UInt8.ofNat (n / 2 ^ (8 * k)) :: be k n
@[simp] theorem iL (k n : Nat) : (be k n).length = k:=by
  induction k with
  | zero=>rfl
  | succ k ih=>simp [be,ih]
def bO : AV:=.v (.slice none 0 0)
def aj (l : List UInt8) (sp : Sp) : AV:=.sl 1 l.length (l.map ah) sp
def Buf (s0 s : AS) (x : AV) (l : List UInt8) : Prop :=
  (x = bO∧l = [])∨∃ t e,x = aj l (.own t e)∧s.own t = some e∧s0.own t = none
structure vR (s0 s : AS) (p : Nat) (l : List UInt8) (bad : Bool) : Prop where
  le : s0.le s
  new : s0.av p = none
  obj : ∃ x,s.av p = some [x,.v (.bool bad)]∧Buf s0 s x l
theorem AS.ae (s : AS) (o : Nat) (cs : List AV) : (s.set o cs).av o = some cs:=by simp [AS.set]
theorem AS.iT (s : AS) (t e : Nat) : (s.bC t e).own t = some e:=by simp [AS.bC]
theorem vR.Bi {s0 s : AS} {p : Nat} {l : List UInt8} {bad : Bool} (h : vR s0 s p l bad) {t e : Nat} {m : List UInt8} (b : Bool) (ht : s0.own t = none) : vR s0 ((s.bC t e).set p [aj m (.own t e),.v (.bool b)]) p m b :=
  ⟨AS.aE (AS.bq h.le ht e) h.new _,h.new,_,AS.ae _ _ _,.inr ⟨t,e,rfl,by simp [AS.set,AS.bC],ht⟩⟩
theorem vR.CV {s0 s : AS} {p : Nat} {l : List UInt8} {bad : Bool} (h : vR s0 s p l bad) {t : Nat} (ht : s.own t = none) : s0.own t = none:=by
  cases h0 : s0.own t with
  | none=>rfl
  | some e=>rw [h.le.own t e h0] at ht; cases ht
theorem oz (l : List UInt8) : (l.map ah).all AV.one = true:=by simp
theorem rN (n : Nat) : ah (UInt8.ofNat n) = .v (.int .u8 (cB .u8 (n : Int))):=by
  rw [gh rfl];simp [ah,IntKind.bits]
theorem MB (n i : Nat) (hi : i < 8) : AV.v (.int .u8 (cB .u8 (eC .u64 (n : Int) (8 * (i : Int))))) = ah (UInt8.ofNat (n / 2 ^ (8 * i))):=by
  have e : (8 * (i : Int)) = ((8 * i : Nat) : Int):=(by omega);rw [e,gL,rN];have : min (8 * i) IntKind.u64.bits = 8 * i:=(by simp [IntKind.bits]; omega);rw [this]
theorem vR.one {s0 s : AS} {p : Nat} {bad : Bool} (h : vR s0 s p [] bad) {t : Nat} (ht : s.own t = none) (b : UInt8) : vR s0 ((s.bC t 0).set p [.sl 1 1 [ah b] (.own t 0),.v (.bool false)]) p [b] false :=
  h.Bi (m:=[b]) false (h.CV ht)
theorem vR.more {s0 s : AS} {p : Nat} {l : List UInt8} {bad : Bool} (h : vR s0 s p l bad) {t e : Nat} (ht : s0.own t = none) (m : List UInt8) {n : Nat} (hn : n = l.length + m.length) {cs : List AV} (hc : cs = l.map ah ++ m.map ah) :
    vR s0 ((s.bC t e).set p [.sl 1 n cs (.own t e),.v (.bool false)]) p (l ++ m) false:=by
  subst hn hc;have:=h.Bi (t:=t) (e:=e) (m:=l ++ m) false ht;simpa [aj] using this
end Go.AM
namespace Go.AM
open Go Go.RowKit
variable {P : Program} {Γ : Nat→List AV} {N : Nat} {ops : Array Oper} {K : Env→AS→Prop} {E : Env} {s : AS}
def QG : Op→Bool
  | .call { callee:=.value _,.. }=>true
  | _=>false
theorem O0 : ∃ f : Program→(Nat→List AV)→Nat→Array Oper→List Oper→(Env→AS→Prop)→Env→AS→Prop,f = AX:=⟨_,rfl⟩
noncomputable def AY : Program→(Nat→List AV)→Nat→Array Oper→List Oper→(Env→AS→Prop)→Env→AS→Prop:=Classical.choose O0
theorem ay : AY = AX:=Classical.choose_spec O0
def ti (P : Program) (Γ : Nat→List AV) (N : Nat) (ops : Array Oper) (k : FuncId) (as : List AV) (dst : Option Tmp) (rest : List Oper) (K : Env→AS→Prop) (E : Env) (s : AS) : Prop :=
  ai P Γ k as s fun r s'=>AY P Γ N ops rest K (bu E dst r) s'
def wL (P : Program) (Γ : Nat→List AV) (N : Nat) (ops : Array Oper) (fv : AV) (as : List AV) (dst : Option Tmp) (rest : List Oper) (K : Env→AS→Prop) (E : Env) (s : AS) : Prop :=
  match fv with
  | .v (.func (.func k) first b6)=>first.isEmpty = true∧b6.isEmpty = true∧af P k = true∧ti P Γ N ops k as dst rest K E s
  | .pI k b6=>af P k = true∧ti P Γ N ops k (as ++ b6) dst rest K E s
  | _=>False
theorem wM (k : FuncId) (as : List AV) (dst : Option Tmp) (rest : List Oper) : wL P Γ N ops (.v (.func (.func k) #[] #[])) as dst rest K E s = (af P k = true∧ti P Γ N ops k as dst rest K E s):=by
  simp [wL]
theorem wN (k : FuncId) (b6 as : List AV) (dst : Option Tmp) (rest : List Oper) : wL P Γ N ops (.pI k b6) as dst rest K E s = (af P k = true∧ti P Γ N ops k (as ++ b6) dst rest K E s):=rfl
theorem ad {k : FuncId} {as : List AV} {dst : Option Tmp} {rest : List Oper} {Q : AV→AS→Prop} (h : ai P Γ k as s Q) (hk : ∀ r s',Q r s'→AY P Γ N ops rest K (bu E dst r) s') : ti P Γ N ops k as dst rest K E s:=h.mono hk
theorem ER : AY P Γ N ops [] K E s = K E s:=by rw [ay]; rfl
theorem fc {dst : Option Tmp} {op : Op} {ty : TypeId} {pos : String} {after : Array Edge} {rest : List Oper} (_hc : QG op = false) :
    AY P Γ N ops ({ dst:=dst,op:=op,type:=ty,pos:=pos,after:=after,guard:=none } :: rest) K E s = ((∀ d,dst = some d→d < N)∧bW P Γ (aL Γ E) s (fun r s'=>AY P Γ N ops rest K (bu E dst r) s') op):=by
  simp only [ay,AX]
theorem wO {o : Oper} {rest : List Oper} {j d : Nat} {want t : Bool} (hg : o.guard = some (j,want)) (hj : mR ops j = some d) (hE : E d = .v (.bool t)) :
    AY P Γ N ops (o :: rest) K E s = if t = want then AY P Γ N ops ({ o with guard:=none } :: rest) K E s else ((∀ d,o.dst = some d→d < N)∧AY P Γ N ops rest K (bu E o.dst (.v undef)) s):=by
  simp only [ay,AX,hg,hj,hE];split <;> rfl
theorem Gi {dst : Option Tmp} (x : Operand) {ty : TypeId} {pos : String} {after : Array Edge} {rest : List Oper} : AY P Γ N ops ({ dst:=dst,op:=(.move x),type:=ty,pos:=pos,after:=after,guard:=none } :: rest) K E s = ((∀ d,dst = some d→d < N)∧bW P Γ (aL Γ E) s (fun r s'=>AY P Γ N ops rest K (bu E dst r) s') (.move x)):=fc rfl
theorem zY {dst : Option Tmp} (x : Operand) {ty : TypeId} {pos : String} {after : Array Edge} {rest : List Oper} : AY P Γ N ops ({ dst:=dst,op:=(.assign x),type:=ty,pos:=pos,after:=after,guard:=none } :: rest) K E s = ((∀ d,dst = some d→d < N)∧bW P Γ (aL Γ E) s (fun r s'=>AY P Γ N ops rest K (bu E dst r) s') (.assign x)):=fc rfl
theorem Gj {dst : Option Tmp} (a b c : Operand) {ty : TypeId} {pos : String} {after : Array Edge} {rest : List Oper} : AY P Γ N ops ({ dst:=dst,op:=(.pick a b c),type:=ty,pos:=pos,after:=after,guard:=none } :: rest) K E s = ((∀ d,dst = some d→d < N)∧bW P Γ (aL Γ E) s (fun r s'=>AY P Γ N ops rest K (bu E dst r) s') (.pick a b c)):=fc rfl
theorem CW {dst : Option Tmp} (t : TypeId) {ty : TypeId} {pos : String} {after : Array Edge} {rest : List Oper} : AY P Γ N ops ({ dst:=dst,op:=(.alloc t),type:=ty,pos:=pos,after:=after,guard:=none } :: rest) K E s = ((∀ d,dst = some d→d < N)∧bW P Γ (aL Γ E) s (fun r s'=>AY P Γ N ops rest K (bu E dst r) s') (.alloc t)):=fc rfl
theorem Jb {dst : Option Tmp} (t : TypeId) (x : Operand) {ty : TypeId} {pos : String} {after : Array Edge} {rest : List Oper} : AY P Γ N ops ({ dst:=dst,op:=(.box t x),type:=ty,pos:=pos,after:=after,guard:=none } :: rest) K E s = ((∀ d,dst = some d→d < N)∧bW P Γ (aL Γ E) s (fun r s'=>AY P Γ N ops rest K (bu E dst r) s') (.box t x)):=fc rfl
theorem CX {dst : Option Tmp} (t : TypeId) (ps : Array (Nat × Operand)) {ty : TypeId} {pos : String} {after : Array Edge} {rest : List Oper} : AY P Γ N ops ({ dst:=dst,op:=(.build t ps),type:=ty,pos:=pos,after:=after,guard:=none } :: rest) K E s = ((∀ d,dst = some d→d < N)∧bW P Γ (aL Γ E) s (fun r s'=>AY P Γ N ops rest K (bu E dst r) s') (.build t ps)):=fc rfl
theorem pT {dst : Option Tmp} (t : TypeId) (n : Nat) (ps : Array (Nat × Operand)) {ty : TypeId} {pos : String} {after : Array Edge} {rest : List Oper} : AY P Γ N ops ({ dst:=dst,op:=(.buildSlice t n ps),type:=ty,pos:=pos,after:=after,guard:=none } :: rest) K E s = ((∀ d,dst = some d→d < N)∧bW P Γ (aL Γ E) s (fun r s'=>AY P Γ N ops rest K (bu E dst r) s') (.buildSlice t n ps)):=fc rfl
theorem Gk {dst : Option Tmp} (t : TypeId) (x : Operand) {ty : TypeId} {pos : String} {after : Array Edge} {rest : List Oper} : AY P Γ N ops ({ dst:=dst,op:=(.load t x),type:=ty,pos:=pos,after:=after,guard:=none } :: rest) K E s = ((∀ d,dst = some d→d < N)∧bW P Γ (aL Γ E) s (fun r s'=>AY P Γ N ops rest K (bu E dst r) s') (.load t x)):=fc rfl
theorem CY {dst : Option Tmp} (t : TypeId) (x y : Operand) {ty : TypeId} {pos : String} {after : Array Edge} {rest : List Oper} : AY P Γ N ops ({ dst:=dst,op:=(.store t x y),type:=ty,pos:=pos,after:=after,guard:=none } :: rest) K E s = ((∀ d,dst = some d→d < N)∧bW P Γ (aL Γ E) s (fun r s'=>AY P Γ N ops rest K (bu E dst r) s') (.store t x y)):=fc rfl
theorem uD {dst : Option Tmp} (x : Operand) {ty : TypeId} {pos : String} {after : Array Edge} {rest : List Oper} : AY P Γ N ops ({ dst:=dst,op:=(.nilCheck x),type:=ty,pos:=pos,after:=after,guard:=none } :: rest) K E s = ((∀ d,dst = some d→d < N)∧bW P Γ (aL Γ E) s (fun r s'=>AY P Γ N ops rest K (bu E dst r) s') (.nilCheck x)):=fc rfl
theorem CZ {dst : Option Tmp} (o : BinOp) (t : TypeId) (x y : Operand) (u : TypeId) {ty : TypeId} {pos : String} {after : Array Edge} {rest : List Oper} : AY P Γ N ops ({ dst:=dst,op:=(.binOp o t x y u),type:=ty,pos:=pos,after:=after,guard:=none } :: rest) K E s = ((∀ d,dst = some d→d < N)∧bW P Γ (aL Γ E) s (fun r s'=>AY P Γ N ops rest K (bu E dst r) s') (.binOp o t x y u)):=fc rfl
theorem Gl {dst : Option Tmp} (o : UnOp) (t : TypeId) (x : Operand) {ty : TypeId} {pos : String} {after : Array Edge} {rest : List Oper} : AY P Γ N ops ({ dst:=dst,op:=(.unOp o t x),type:=ty,pos:=pos,after:=after,guard:=none } :: rest) K E s = ((∀ d,dst = some d→d < N)∧bW P Γ (aL Γ E) s (fun r s'=>AY P Γ N ops rest K (bu E dst r) s') (.unOp o t x)):=fc rfl
theorem wQ {dst : Option Tmp} (t u : TypeId) (x : Operand) {ty : TypeId} {pos : String} {after : Array Edge} {rest : List Oper} : AY P Γ N ops ({ dst:=dst,op:=(.convert t u x),type:=ty,pos:=pos,after:=after,guard:=none } :: rest) K E s = ((∀ d,dst = some d→d < N)∧bW P Γ (aL Γ E) s (fun r s'=>AY P Γ N ops rest K (bu E dst r) s') (.convert t u x)):=fc rfl
theorem mj {dst : Option Tmp} (t : TypeId) (x : Operand) {ty : TypeId} {pos : String} {after : Array Edge} {rest : List Oper} : AY P Γ N ops ({ dst:=dst,op:=(.makeInterface t x),type:=ty,pos:=pos,after:=after,guard:=none } :: rest) K E s = ((∀ d,dst = some d→d < N)∧bW P Γ (aL Γ E) s (fun r s'=>AY P Γ N ops rest K (bu E dst r) s') (.makeInterface t x)):=fc rfl
theorem uE {dst : Option Tmp} (f : Fn) (a b : Array Operand) {ty : TypeId} {pos : String} {after : Array Edge} {rest : List Oper} : AY P Γ N ops ({ dst:=dst,op:=(.makeFunc f a b),type:=ty,pos:=pos,after:=after,guard:=none } :: rest) K E s = ((∀ d,dst = some d→d < N)∧bW P Γ (aL Γ E) s (fun r s'=>AY P Γ N ops rest K (bu E dst r) s') (.makeFunc f a b)):=fc rfl
theorem rP {dst : Option Tmp} (t : TypeId) (x y : Operand) {ty : TypeId} {pos : String} {after : Array Edge} {rest : List Oper} : AY P Γ N ops ({ dst:=dst,op:=(.makeSlice t x y),type:=ty,pos:=pos,after:=after,guard:=none } :: rest) K E s = ((∀ d,dst = some d→d < N)∧bW P Γ (aL Γ E) s (fun r s'=>AY P Γ N ops rest K (bu E dst r) s') (.makeSlice t x y)):=fc rfl
theorem C0 {dst : Option Tmp} (t : TypeId) (x : Operand) (a b c : Option Operand) {ty : TypeId} {pos : String} {after : Array Edge} {rest : List Oper} : AY P Γ N ops ({ dst:=dst,op:=(.slice t x a b c),type:=ty,pos:=pos,after:=after,guard:=none } :: rest) K E s = ((∀ d,dst = some d→d < N)∧bW P Γ (aL Γ E) s (fun r s'=>AY P Γ N ops rest K (bu E dst r) s') (.slice t x a b c)):=fc rfl
theorem rQ {dst : Option Tmp} (t : TypeId) (x : Operand) (i : Nat) {ty : TypeId} {pos : String} {after : Array Edge} {rest : List Oper} : AY P Γ N ops ({ dst:=dst,op:=(.fieldAddr t x i),type:=ty,pos:=pos,after:=after,guard:=none } :: rest) K E s = ((∀ d,dst = some d→d < N)∧bW P Γ (aL Γ E) s (fun r s'=>AY P Γ N ops rest K (bu E dst r) s') (.fieldAddr t x i)):=fc rfl
theorem C4 {dst : Option Tmp} (t : TypeId) (x : Operand) (i : Nat) {ty : TypeId} {pos : String} {after : Array Edge} {rest : List Oper} : AY P Γ N ops ({ dst:=dst,op:=(.field t x i),type:=ty,pos:=pos,after:=after,guard:=none } :: rest) K E s = ((∀ d,dst = some d→d < N)∧bW P Γ (aL Γ E) s (fun r s'=>AY P Γ N ops rest K (bu E dst r) s') (.field t x i)):=fc rfl
theorem rR {dst : Option Tmp} (t : TypeId) (x y : Operand) {ty : TypeId} {pos : String} {after : Array Edge} {rest : List Oper} : AY P Γ N ops ({ dst:=dst,op:=(.indexAddr t x y),type:=ty,pos:=pos,after:=after,guard:=none } :: rest) K E s = ((∀ d,dst = some d→d < N)∧bW P Γ (aL Γ E) s (fun r s'=>AY P Γ N ops rest K (bu E dst r) s') (.indexAddr t x y)):=fc rfl
theorem C5 {dst : Option Tmp} (t : TypeId) (x y : Operand) {ty : TypeId} {pos : String} {after : Array Edge} {rest : List Oper} : AY P Γ N ops ({ dst:=dst,op:=(.index t x y),type:=ty,pos:=pos,after:=after,guard:=none } :: rest) K E s = ((∀ d,dst = some d→d < N)∧bW P Γ (aL Γ E) s (fun r s'=>AY P Γ N ops rest K (bu E dst r) s') (.index t x y)):=fc rfl
theorem wR {dst : Option Tmp} (x : Operand) (i : Nat) {ty : TypeId} {pos : String} {after : Array Edge} {rest : List Oper} : AY P Γ N ops ({ dst:=dst,op:=(.extract x i),type:=ty,pos:=pos,after:=after,guard:=none } :: rest) K E s = ((∀ d,dst = some d→d < N)∧bW P Γ (aL Γ E) s (fun r s'=>AY P Γ N ops rest K (bu E dst r) s') (.extract x i)):=fc rfl
theorem wT {dst : Option Tmp} (b : Builtin) (a : Array Operand) (t : Array TypeId) {ty : TypeId} {pos : String} {after : Array Edge} {rest : List Oper} : AY P Γ N ops ({ dst:=dst,op:=(.call { callee:=.builtin b,args:=a,argTypes:=t }),type:=ty,pos:=pos,after:=after,guard:=none } :: rest) K E s = ((∀ d,dst = some d→d < N)∧bW P Γ (aL Γ E) s (fun r s'=>AY P Γ N ops rest K (bu E dst r) s') (.call { callee:=.builtin b,args:=a,argTypes:=t })):=fc rfl
theorem Gm {dst : Option Tmp} {f : Operand} {args : Array Operand} {argTypes : Array TypeId} {ty : TypeId} {pos : String} {after : Array Edge} {rest : List Oper} :
    AY P Γ N ops ({ dst:=dst,op:=.call { callee:=.value f,args:=args,argTypes:=argTypes },type:=ty,pos:=pos,after:=after,guard:=none } :: rest) K E s =
      ((∀ d,dst = some d→d < N)∧wL P Γ N ops (aL Γ E f) (args.toList.map (aL Γ E)) dst rest K E s):=by
  simp only [ay,AX,bW,cy,cT,wL,ti];rfl
theorem C6 {ρ : Operand→AV} {K : AV→AS→Prop} {op : Op} : bW P Γ ρ s K op = match cy P ρ op with | some r=>K r s | none=>cT P Γ ρ s K op:=rfl
section
variable {ρ : Operand→AV} {K : AV→AS→Prop}
theorem mU {T : TypeId} {x : Operand} : cT P Γ ρ s K (.load T x) = (match ρ x with
    | .ptr o off=>(match s.av o with
      | some cs=>P.cellsOf T≠0∧(match nB P T (cs.drop off) with | some v=>K v s | none=>False)
      | none=>False)
    | _=>False):=rfl
theorem pU {T : TypeId} {a x : Operand} : cT P Γ ρ s K (.store T a x) = (match ρ a with
    | .ptr o off=>(match s.av o with
      | some cs=>P.cellsOf T≠0∧(ρ x).cells.length = P.cellsOf T∧off + (ρ x).cells.length≤cs.length∧(ρ x).cells.all AV.one = true∧K (.v undef) (s.set o (bm cs off (ρ x).cells))
      | none=>False)
    | _=>False):=rfl
theorem pV {T : TypeId} : cT P Γ ρ s K (.alloc T) = (match bg P T with | some z=>∀ o,s.av o = none→K (.ptr o 0) (s.set o z) | none=>False):=rfl
theorem uF {T : TypeId} {x : Operand} : cT P Γ ρ s K (.box T x) = ∀ o,s.av o = none→K (.ptr o 0) (s.set o (ρ x).cells):=rfl
theorem lG {T : TypeId} {l c : Operand} : cT P Γ ρ s K (.makeSlice T l c) = (match P.underlying T,ρ l,ρ c with
    | some (.slice e),.v (.int _ n),.v (.int _ m) =>
      (match bg P e with
      | some z=>0≤n∧m = n∧P.bytesOf e * n≤2 ^ 46∧n≤2 ^ 46∧P.cellsOf e≠0∧z.length = P.cellsOf e ∧
          ∀ o,s.av o = none→K (.iv o 0 (P.cellsOf e) n.toNat n.toNat) (s.set o (mI (n.toNat * P.cellsOf e) z))
      | none=>False)
    | _,_,_=>False):=rfl
theorem oA {x y : Operand} {T xT : TypeId} : cT P Γ ρ s K (.call { callee:=.builtin .append,args:=#[x,y],argTypes:=#[T,xT] }) = (match P.underlying T with
      | some (.slice e) =>
        (match bg P e,im (P.cellsOf e) s (ρ y) with
        | some z,some (m,ds)=>jY P (some xT) = true∧P.cellsOf e≠0∧z.length = P.cellsOf e∧fw P e (ρ x) m ds s K
        | _,_=>CK P e xT (ρ x) (ρ y) s K)
      | _=>False):=rfl
theorem rS {x y : Operand} {T xT : TypeId} : cT P Γ ρ s K (.call { callee:=.builtin .copy,args:=#[x,y],argTypes:=#[T,xT] }) = (match P.underlying T with
      | some (.slice e) =>
        (match im (P.cellsOf e) s (ρ y),ρ x with
        | some (m,ds),.iv o off _ n _ =>
          (match s.av o with
          | some cs=>P.cellsOf e≠0∧ds.all AV.one = true∧off + min m n * P.cellsOf e≤cs.length ∧
              K (.v (.int .i64 ((min m n : Nat) : Int))) (s.set o (bm cs off (ds.take (min m n * P.cellsOf e))))
          | none=>False)
        | _,_=>False)
      | _=>False):=rfl
theorem oB {e : TypeId} {m : Nat} {ds : List AV} : fw P e (.v (.slice none 0 0)) m ds s K = if m = 0 then K (.v (.slice none 0 0)) s
    else m * P.bytesOf e≤2 ^ 46∧m≤2 ^ 46∧∀ t,s.own t = none→K (.sl (P.cellsOf e) m ds (.own t 0)) (s.bC t 0):=rfl
theorem rT {e : TypeId} {sz n m : Nat} {cs ds : List AV} : fw P e (.sl sz n cs .full) m ds s K = if m = 0 then K (.sl sz n cs .full) s
    else sz = P.cellsOf e∧(n + m) * P.bytesOf e≤2 ^ 46∧n + m≤2 ^ 46∧ds.all AV.one = true∧∀ t,s.own t = none→K (.sl sz (n + m) (cs ++ ds) (.own t 0)) (s.bC t 0):=rfl
theorem uG {e : TypeId} {sz n m : Nat} {cs ds : List AV} : fw P e (.sl sz n cs .new) m ds s K = if m = 0 then K (.sl sz n cs .new) s
    else sz = P.cellsOf e∧(n + m) * P.bytesOf e≤2 ^ 46∧n + m≤2 ^ 46∧ds.all AV.one = true∧∀ t,s.own t = none→K (.sl sz (n + m) (cs ++ ds) (.own t 0)) (s.bC t 0):=rfl
theorem oC {e : TypeId} {sz n m t g : Nat} {cs ds : List AV} : fw P e (.sl sz n cs (.own t g)) m ds s K = if m = 0 then K (.sl sz n cs (.own t g)) s
    else sz = P.cellsOf e∧(n + m) * P.bytesOf e≤2 ^ 46∧n + m≤2 ^ 46∧ds.all AV.one = true∧s.own t = some g∧K (.sl sz (n + m) (cs ++ ds) (.own t (g + 1))) (s.bC t (g + 1)):=rfl
end
theorem C7 {dst : Option Tmp} {op : Op} {ty : TypeId} {pos : String} {after : Array Edge} {j : Nat} {want : Bool} {rest : List Oper} :
    AY P Γ N ops ({ dst:=dst,op:=op,type:=ty,pos:=pos,after:=after,guard:=some (j,want) } :: rest) K E s =
      (match mR ops j with
      | none=>(∀ d,dst = some d→d < N)∧False
      | some d=>match E d with
        | .v (.bool t)=>if t = want then AY P Γ N ops ({ dst:=dst,op:=op,type:=ty,pos:=pos,after:=after,guard:=none } :: rest) K E s else ((∀ d,dst = some d→d < N)∧AY P Γ N ops rest K (bu E dst (.v undef)) s)
        | .v (.tuple _)=>(∀ d,dst = some d→d < N)∧AY P Γ N ops rest K (bu E dst (.v undef)) s
        | _=>(∀ d,dst = some d→d < N)∧False):=by
  cases hj : mR ops j with
  | none=>simp only [ay,AX,hj]
  | some d =>
    simp only;split
    · rename_i t hE;exact wO (o:={ dst:=dst,op:=op,type:=ty,pos:=pos,after:=after,guard:=some (j,want) }) rfl hj hE
    · rename_i c hE;simp only [ay,AX,hj,hE]
    · rename_i cW;simp only [ay,AX,hj]
theorem wU : ea [] = .dX []:=rfl
theorem wW (a : AV) : ea [a] = a:=rfl
theorem wX (a b : AV) : ea [a,b] = .dX [a,b]:=rfl
theorem rU (a b c : AV) : ea [a,b,c] = .dX [a,b,c]:=rfl
theorem uH (a b c d : AV) : ea [a,b,c,d] = .dX [a,b,c,d]:=rfl
theorem uI (a b c d e : AV) : ea [a,b,c,d,e] = .dX [a,b,c,d,e]:=rfl
def MC (P : Program) (Γ : Nat→List AV) (N : Nat) (ops : Array Oper) (fl : List Nat) (k : Nat) (L : List Oper) (K : Env→AS→Prop) (E : Env) (s : AS) : Prop:=ov P Γ N ops (rM fl k L) K E s
theorem Jc : ∃ f : Program→(Nat→List AV)→Nat→Array Oper→List Nat→Nat→List Oper→(Env→AS→Prop)→Env→AS→Prop,f = MC:=⟨_,rfl⟩
noncomputable def QH : Program→(Nat→List AV)→Nat→Array Oper→List Nat→Nat→List Oper→(Env→AS→Prop)→Env→AS→Prop:=Classical.choose Jc
theorem YP : QH = MC:=Classical.choose_spec Jc
theorem cj {fl : List Nat} {k : Nat} : QH P Γ N ops fl k [] K E s = K E s:=by rw [YP]; rfl
theorem bM {fl : List Nat} {k : Nat} {o : Oper} {rest : List Oper} : QH P Γ N ops fl k (o :: rest) K E s =
    if fl.contains k = true then AY P Γ N ops [o] (QH P Γ N ops fl (k + 1) rest K) E s
    else ((∀ d,o.dst = some d→d < N)∧match bY P Γ ops o E with | some v=>QH P Γ N ops fl (k + 1) rest K (bu E o.dst v) s | none=>False):=by rw [YP,ay]; rfl
section
variable {Q : Exit→Env→AS→Prop}
theorem awp_reg_seq {id : Nat} {L : List Oper} {y : Code} (h : ∀ K : Env→AS→Prop,(∀ E s,ch P Γ N y Q E s→K E s)→AY P Γ N L.toArray L K E s) : ch P Γ N (.seq (.region id L.toArray false) y) Q E s :=
  wG fun K hK=>by simpa [ay] using h K hK
theorem awp_reg_end {id : Nat} {L : List Oper} (h : ∀ K : Env→AS→Prop,(∀ E s,Q .normal E s→K E s)→AY P Γ N L.toArray L K E s) : ch P Γ N (.region id L.toArray false) Q E s :=
  wI fun K hK=>by simpa [ay] using h K hK
theorem bn (hm : P.follows .mixedOrders = true) (fl : List Nat) {id : Nat} {L : List Oper} {y : Code} (iz : qz L.toArray fl = true) (h : ∀ K : Env→AS→Prop,(∀ E s,ch P Γ N y Q E s→K E s)→QH P Γ N L.toArray fl 0 L K E s) :
    ch P Γ N (.seq (.region id L.toArray true) y) Q E s :=
  Bf hm fl iz fun K hK=>by simpa [YP,MC] using h K hK
theorem fe (hm : P.follows .mixedOrders = true) (fl : List Nat) {id : Nat} {L : List Oper} (iz : qz L.toArray fl = true) (h : ∀ K : Env→AS→Prop,(∀ E s,Q .normal E s→K E s)→QH P Γ N L.toArray fl 0 L K E s) :
    ch P Γ N (.region id L.toArray true) Q E s :=
  Bg hm fl iz fun K hK=>by simpa [YP,MC] using h K hK
end
end Go.AM
namespace Go.AM
open Go Go.RowKit
def dQ (k n : Nat) (st : List UInt8 × Bool) : List UInt8 × Bool:=if st.2 = true then st else (st.1 ++ be k n,false)
def bd (k : Nat) (n : Int) (st : List UInt8 × Bool) : List UInt8 × Bool:=if 0≤n∧n < 2 ^ (8 * k) then dQ k n.toNat st else (st.1,true)
def dR (m : List UInt8) (st : List UInt8 × Bool) : List UInt8 × Bool:=if st.2 = true then st else (st.1 ++ m,false)
def dj (k : Nat) (m : List UInt8) (st : List UInt8 × Bool) : List UInt8 × Bool:=dR m (bd k m.length st)
abbrev fI (s0 s : AS) (p : Nat) (st : List UInt8 × Bool) : Prop:=vR s0 s p st.1 st.2
def yL (x : AV) (l : List UInt8) : Prop:=(x = bO∧l = [])∨∃ sp,x = aj l sp
theorem yL.nil : yL bO []:=.inl ⟨rfl,rfl⟩
theorem yL.mk (l : List UInt8) (sp : Sp) : yL (aj l sp) l:=.inr ⟨sp,rfl⟩
theorem ai.any {P : Program} {Γ : Nat→List AV} {f : FuncId} {pre post : List AV} {l : List UInt8} {s : AS} {Q : AV→AS→Prop} (h0 : l = []→ai P Γ f (pre ++ bO :: post) s Q) (h1 : ai P Γ f (pre ++ aj l .no :: post) s Q) :
    ai P Γ f (pre ++ aj l .any :: post) s Q:=by
  intro G w vs hs hv;have key : ∀ (pre : List AV) (vs : List Value),aq G (pre ++ aj l .any :: post) vs→(l = []∧aq G (pre ++ bO :: post) vs)∨aq G (pre ++ aj l .no :: post) vs:=by
    intro pre;induction pre with
    | nil =>
      intro vs h;simp only [List.nil_append,aq] at h ⊢;obtain ⟨u,us,rfl,h1,h2⟩:=h;rcases au.any h1 with ⟨h3,_,h4⟩ | h3
      · exact .inl ⟨List.eq_nil_of_length_eq_zero h3,u,us,rfl,h4,h2⟩
      · exact .inr ⟨u,us,rfl,h3,h2⟩
    | cons x pre ih =>
      intro vs h;simp only [List.cons_append,aq] at h ⊢;obtain ⟨u,us,rfl,h1,h2⟩:=h;rcases ih us h2 with ⟨h3,h4⟩ | h3
      · exact .inl ⟨h3,u,us,rfl,h1,h4⟩
      · exact .inr ⟨u,us,rfl,h1,h3⟩
  rcases key pre vs hv with ⟨h3,h4⟩ | h3
  · exact h0 h3 G w vs hs h4
  · exact h1 G w vs hs h3
theorem ES (k n : Nat) (st : List UInt8 × Bool) : (dQ k n st).1.length≤st.1.length + k:=by
  unfold dQ; split <;> simp
theorem eu (k : Nat) (n : Int) (st : List UInt8 × Bool) : (bd k n st).1.length≤st.1.length + k:=by
  unfold bd; split
  · exact ES ..
  · simp
theorem wY (m : List UInt8) (st : List UInt8 × Bool) : (dR m st).1.length≤st.1.length + m.length:=by
  unfold dR; split <;> simp
theorem vR.MD {s0 s : AS} {p : Nat} {bad : Bool} (h : vR s0 s p [] bad) {t : Nat} (ht : s.own t = none) (m : List UInt8) : vR s0 ((s.bC t 0).set p [.sl 1 m.length (m.map ah) (.own t 0),.v (.bool false)]) p m false :=
  h.Bi (m:=m) false (h.CV ht)
theorem vR.bad {s0 s : AS} {p : Nat} {l : List UInt8} {bad : Bool} (h : vR s0 s p l bad) {x : AV} (hx : s.av p = some [x,.v (.bool bad)]) (hb : Buf s0 s x l) (b : Bool) : vR s0 (s.set p [x,.v (.bool b)]) p l b :=
  ⟨AS.aE h.le h.new _,h.new,x,AS.ae _ _ _,hb⟩
theorem zZ (n : Int) (k : Nat) (hk : 8 * k≤64) (h0 : 0≤n) : (eC .i64 n (8 * (k : Int)) != 0) = decide (2 ^ (8 * k)≤n):=by
  obtain ⟨m,rfl⟩:=Int.eq_ofNat_of_zero_le h0;rw [show (8 * (k : Int)) = ((8 * k : Nat) : Int) from by omega,gL];have : min (8 * k) IntKind.i64.bits = 8 * k:=(by simp [IntKind.bits]; omega);rw [this];have e : ((2 : Int) ^ (8 * k)) = ((2 ^ (8 * k) : Nat) : Int):=(by push_cast; rfl);rw [e];have wZ : 0 < 2 ^ (8 * k):=Nat.pow_pos (by decide);by_cases h : m < 2 ^ (8 * k)
  · rw [Nat.div_eq_of_lt h];simp;omega
  · have : m / 2 ^ (8 * k)≠0:=by
      rw [Ne,Nat.div_eq_zero_iff];omega
    have h1 : ((((m / 2 ^ (8 * k) : Nat) : Int) != 0) = true):=by
      rw [bne_iff_ne]; omega
    rw [h1];symm;rw [decide_eq_true_eq];omega
theorem fT (n : Nat) (h : n < 2 ^ 64) : cB .u64 (n : Int) = n:=by
  rw [gh rfl];simp [IntKind.bits,Nat.mod_eq_of_lt h]
end Go.AM
namespace Go.AM
open Go Go.RowKit
theorem ME {a : Int} (h : (Lit.int .u64 a).wf = true) : ∃ n : Nat,a = n∧n < 2 ^ 64:=by
  have:=bounds_u64 h;exact ⟨a.toNat,by omega,by omega⟩
theorem QI {a : Int} (h : (Lit.int .u8 a).wf = true) : ∃ n : Nat,a = n∧n < 2 ^ 8:=by
  have:=bounds_u8 h;exact ⟨a.toNat,by omega,by omega⟩
end Go.AM
