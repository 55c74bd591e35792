/- An abstract machine for the model and the rules of its walk, each proved sound over the model; no condition. -/
import Derived.Test.YtcjifoccjlpapaaGreatDoorAMp2
import Derived.OpenShut
set_option linter.unusedSimpArgs false
set_option linter.unusedVariables false
namespace Go.AM
open Go Go.RowKit
variable {rd : Option Nat} {P : Program} {Γ : Nat→List AV} {G : Gh} {s : AS} {w : World}
def OA (ops : Array Oper) (D : List Nat) (o : Oper) : Nat :=
  o.after.toList.foldl (fun m e=>if Region.binds .any e then m ||| 2 ^ e.on ||| D.getD e.on 0 else m) 0
def B4 (ops : Array Oper) (D : List Nat) : Bool :=
  (List.range ops.size).all fun i =>
    match ops[i]? with
    | some o=>D.getD i 0 == OA ops D o && o.after.toList.all fun e=>!Region.binds .any e || decide (e.on < i)
    | none=>true
def IC (ops : Array Oper) (D : List Nat) (fl : List Nat) : Bool :=
  (List.range ops.size).all fun j=>(List.range j).all fun i =>
    match ops[i]?,ops[j]? with
    | some x,some y=>(D.getD j 0).testBit i || (x.apart ops y && !(fl.contains i && fl.contains j))
    | _,_=>true
def tc (ops : Array Oper) (fl : List Nat) : Bool :=
  B4 ops (Region.before ops).toList && IC ops (Region.before ops).toList fl
theorem ug (D : List Nat) (l : Nat) : ∀ (es : List Edge) (m : Nat),(es.foldl (fun m e=>if Region.binds .any e then m ||| 2 ^ e.on ||| D.getD e.on 0 else m) m).testBit l = true →
    m.testBit l = true∨∃ e ∈ es,Region.binds .any e = true∧(l = e.on∨(D.getD e.on 0).testBit l = true)
  | [],m,h=>.inl h
  | e :: es,m,h=>by
    simp only [List.foldl_cons] at h;rcases ug D l es _ h with h1 | ⟨e',h1,h2⟩
    · split at h1
      · rename_i hb;rw [Nat.testBit_or,Nat.testBit_or] at h1;simp only [Bool.or_eq_true] at h1;rcases h1 with (h1 | h1) | h1
        · exact .inl h1
        · rw [Nat.testBit_two_pow] at h1;exact .inr ⟨e,by simp,hb,.inl (of_decide_eq_true h1).symm⟩
        · exact .inr ⟨e,by simp,hb,.inr h1⟩
      · exact .inl h1
    · exact .inr ⟨e',by simp [h1],h2⟩
theorem jy {ops : Array Oper} {D : List Nat} (h : B4 ops D = true) {i : Nat} {o : Oper} (ho : ops[i]? = some o) :
    (∀ l,(D.getD i 0).testBit l = true→∃ e ∈ o.after.toList,Region.binds .any e = true∧(l = e.on∨(D.getD e.on 0).testBit l = true))∧∀ e ∈ o.after.toList,Region.binds .any e = true→e.on < i:=by
  unfold B4 at h;rw [List.all_eq_true] at h;have hi : i < ops.size:=by
    rcases Nat.lt_or_ge i ops.size with h' | h'
    · exact h'
    · simp [Array.getElem?_eq_none h'] at ho
  have:=h i (by simpa using hi);simp only [ho,Bool.and_eq_true,beq_iff_eq,List.all_eq_true] at this;refine ⟨fun l hl=>?_,fun e he hb=>?_⟩
  · rw [this.1] at hl;rcases ug D l _ _ hl with h1 | h1
    · simp at h1
    · exact h1
  · have:=this.2 e he;simpa [hb] using this
section
variable {N : Nat} {ops : Array Oper}
def left (ops : Array Oper) (listed : Array Bool) : List Nat:=(List.range ops.size).filter fun i=>!listed.getD i true
theorem mem_left {listed : Array Bool} {i : Nat} : i ∈ left ops listed↔i < ops.size∧listed.getD i true = false:=by
  simp [left]
def td (ops : Array Oper) (fl : List Nat) (i : Nat) : Oper × Bool:=((ops[i]?).getD default,fl.contains i)
theorem yV {listed : Array Bool} {i : Nat} (hl : listed.size = ops.size) (hi : i < ops.size) (h0 : listed.getD i true = false) :
    ∃ L1 L2,left ops listed = L1 ++ i :: L2∧left ops (listed.setIfInBounds i true) = L1 ++ L2∧(∀ x ∈ L1,x < i∧listed.getD x true = false):=by
  have key : ∀ (n k : Nat),k≤i→i < k + n →
      ∃ L1 L2,(List.range' k n).filter (fun i=>!listed.getD i true) = L1 ++ i :: L2∧(List.range' k n).filter (fun j=>!(listed.setIfInBounds i true).getD j true) = L1 ++ L2∧(∀ x ∈ L1,x < i∧listed.getD x true = false):=by
    intro n;induction n with
    | zero=>intro k h1 h2; omega
    | succ n ih =>
      intro k h1 h2;rw [List.range'_succ];by_cases hk : k = i
      · subst hk;refine ⟨[],(List.range' (k + 1) n).filter (fun i=>!listed.getD i true),?_,?_,by simp⟩
        · rw [List.filter_cons_of_pos (by simpa using h0)]; rfl
        · rw [List.filter_cons_of_neg (by simp [hl,hi])];simp only [List.nil_append];apply List.filter_congr;intro x hx;rw [getD_set_ne true (by simp at hx; omega)]
      · obtain ⟨L1,L2,q1,q2,q3⟩:=ih (k + 1) (by omega) (by omega);have dz : (listed.setIfInBounds i true).getD k true = listed.getD k true:=getD_set_ne true (by omega);by_cases hb : listed.getD k true = false
        · refine ⟨k :: L1,L2,?_,?_,?_⟩
          · rw [List.filter_cons_of_pos (by simpa using hb),q1]; rfl
          · rw [List.filter_cons_of_pos (by rw [dz]; simpa using hb),q2]; rfl
          · intro x hx;rcases List.mem_cons.1 hx with rfl | hx
            · exact ⟨by omega,hb⟩
            · exact q3 x hx
        · refine ⟨L1,L2,?_,?_,q3⟩
          · rw [List.filter_cons_of_neg (by simpa using hb),q1]
          · rw [List.filter_cons_of_neg (by rw [dz]; simpa using hb),q2]
  have:=key ops.size 0 (by omega) (by omega);simpa [left,List.range_eq_range'] using this
theorem C7 {fl : List Nat} {Q : Exit→Act→World→Prop} {K : Env→AS→Prop} (kS : tc ops fl = true) :
    ∀ (fuel : Nat) (listed : Array Bool) {G : Gh} {E : Env} {s : AS} {a : Act} {w : World},listed.size = ops.size→(left ops listed).length≤fuel →
      (∀ (i : Nat) (o : Oper),ops[i]? = some o→listed.getD i true = true→∀ e ∈ o.after.toList,Region.binds .any e = true→listed.getD e.on false = true) →
      qp P Γ N ops ((left ops listed).map (td ops fl)) K E s→Rel Γ N G E s a w →
      (∀ G' E' s' a' w',G.le G'→Rel Γ N G' E' s' a' w'→K E' s'→Q .normal a' w')→wpAnyIn (xf rd) 0 P .any ops Q fuel listed a w:=by
  simp only [tc,Bool.and_eq_true] at kS
  obtain ⟨EB,mh⟩:=kS
  intro fuel
  have rT : ∀ (listed : Array Bool),Region.ready .any ops listed = []→left ops listed = []:=by
    intro listed h
    -- the first that is left could go
    cases hl : left ops listed with
    | nil=>rfl
    | cons i L =>
      exfalso
      have hi : i ∈ left ops listed:=by rw [hl]; simp
      obtain ⟨h1,h2⟩:=mem_left.1 hi
      have Hj : ∀ j,j < i→listed.getD j true = true:=by
        intro j hj
        cases JI : listed.getD j true with
        | true=>rfl
        | false =>
          exfalso
          have ID : j ∈ left ops listed:=mem_left.2 ⟨by omega,JI⟩
          have hs : (left ops listed).Pairwise (· < ·):=by
            unfold left
            exact List.Pairwise.filter _ List.pairwise_lt_range
          rw [hl] at hs ID
          rcases List.mem_cons.1 ID with rfl | ID
          · omega
          · have:=(List.pairwise_cons.1 hs).1 j ID
            omega
      have ho : ops[i]? = some ops[i]:=by simp [h1]
      have hr : i ∈ Region.ready .any ops listed:=by
        rw [mem_ready]
        refine ⟨h2,_,ho,fun e he hb=>?_⟩
        have cN:=(jy EB ho).2 e (by simpa using he) hb
        have:=Hj _ cN
        -- both defaults agree where the place is there
        have fY : e.on < listed.size:=by
          rcases Nat.lt_or_ge e.on listed.size with h' | h'
          · exact h'
          · exfalso
            have : listed.getD i true = true:=by
              simp [Array.getElem?_eq_none (show listed.size≤i by omega)]
            rw [h2] at this; cases this
        simpa [fY] using this
      rw [h] at hr
      cases hr
  induction fuel with
  | zero =>
    intro listed G E s a w fY hlen fM h hr hq
    have hl : left ops listed = []:=List.eq_nil_of_length_eq_zero (by omega)
    have mi : Region.ready .any ops listed = []:=by
      cases UN : Region.ready .any ops listed with
      | nil=>rfl
      | cons i L =>
        exfalso
        have : i ∈ Region.ready .any ops listed:=by rw [UN]; simp
        rw [mem_ready] at this
        obtain ⟨h0,o,ho,_⟩:=this
        have : i ∈ left ops listed:=mem_left.2 ⟨(Array.getElem?_eq_some_iff.1 ho).1,h0⟩
        rw [hl] at this
        cases this
    rw [hl] at h
    exact ⟨mi,hq G E s a w (.refl G) hr h⟩
  | succ fuel ih =>
    intro listed G E s a w fY hlen fM h hr hq
    refine ⟨fun mi=>?_,fun i hi=>?_⟩
    · rw [rT listed mi] at h
      exact hq G E s a w (.refl G) hr h
    · obtain ⟨h0,o,ho,bT⟩:=mem_ready.1 hi
      have EC : i < ops.size:=(Array.getElem?_eq_some_iff.1 ho).1
      obtain ⟨L1,L2,q1,q2,q3⟩:=yV fY EC h0
      -- what comes before i is done
      have uh : ∀ (j : Nat) (oj : Oper),ops[j]? = some oj→(∀ e ∈ oj.after.toList,Region.binds .any e = true→listed.getD e.on false = true)→∀ l,((Region.before ops).toList.getD j 0).testBit l = true→listed.getD l false = true:=by
        intro j
        induction j using Nat.strongRecOn with
        | _ j UO =>
          intro oj B5 hj l hl
          obtain ⟨d1,d2⟩:=jy EB B5
          obtain ⟨e,he,hb,h1⟩:=d1 l hl
          have xh:=hj e he hb
          rcases h1 with rfl | h1
          · exact xh
          · have cN:=d2 e he hb
            have UQ : e.on < ops.size:=by
              have:=(Array.getElem?_eq_some_iff.1 B5).1
              omega
            have ED : ops[e.on]? = some ops[e.on]:=by simp [UQ]
            refine UO e.on cN _ ED (fM e.on _ ED ?_) l h1
            have : e.on < listed.size:=by omega
            simpa [this] using xh
      have sy : ∀ x ∈ L1,gu ops ((ops[x]?).getD default) o∧¬ (fl.contains x = true∧fl.contains i = true):=by
        intro x hx
        obtain ⟨UR,JT⟩:=q3 x hx
        unfold IC at mh
        rw [List.all_eq_true] at mh
        have h1:=mh i (by simpa using EC)
        rw [List.all_eq_true] at h1
        have h2:=h1 x (by simpa using UR)
        have Qz : ops[x]? = some (ops[x]'(by omega)):=by simp
        rw [Qz,ho] at h2
        simp only [Bool.or_eq_true,Bool.and_eq_true,Bool.not_eq_true'] at h2
        rcases h2 with h2 | ⟨h2,h3⟩
        · exfalso
          have:=uh i o ho (fun e he hb=>bT e (by simpa using he) hb) x h2
          have US : x < listed.size:=by omega
          simp [US] at this JT
          rw [JT] at this; cases this
        · refine ⟨by rw [Qz]; exact h2,fun hc=>?_⟩
          rw [hc.1,hc.2] at h3
          cases h3
      have ff : ∀ {G' : Gh} {E' : Env} {s' : AS} {a' : Act} {w' : World},G.le G'→qp P Γ N ops ((L1 ++ L2).map (td ops fl)) K E' s'→Rel Γ N G' E' s' a' w'→wpAnyIn (xf rd) 0 P .any ops Q fuel (listed.setIfInBounds i true) a' w':=by
        intro G' E' s' a' w' hle hA Bf
        refine ih (listed.setIfInBounds i true) (by simpa using fY) ?_ ?_ ?_ Bf (fun yu iG im BZ yt k1 k2 k3=>hq yu iG im BZ yt (hle.trans k1) k2 k3)
        · rw [q2]
          rw [q1] at hlen
          simp at hlen ⊢
          omega
        · intro j oj B5 hj e he hb
          by_cases GH : j = i
          · subst GH
            rw [ho] at B5; cases B5
            exact getD_set_true (bT e (by simpa using he) hb)
          · rw [getD_set_ne true (Ne.symm GH)] at hj
            exact getD_set_true (fM j oj B5 hj e he hb)
        · rw [q2]; exact hA
      rw [q1] at h
      simp only [List.map_append,List.map_cons] at h ff
      have nf : td ops fl i = (o,fl.contains i):=by simp [td,ho]
      rw [nf] at h
      cases hf : fl.contains i with
      | false =>
        rw [hf] at h
        have lB : ∀ x ∈ L1.map (td ops fl),gu ops x.1 o:=by
          intro x hx
          obtain ⟨j,hj,rfl⟩:=List.mem_map.1 hx
          exact (sy j hj).1
        obtain ⟨hd,v,hv⟩:=yU _ lB h hr
        have h1:=mg _ lB hv h
        have hX : qp P Γ N ops ((o,false) :: (L1.map (td ops fl) ++ L2.map (td ops fl))) K E s:=by
          simp only [qp,Bool.false_eq_true,if_false,hv]
          exact ⟨hd,h1⟩
        have h2:=Hi hX
        exact lA (L:=[]) (K:=fun E s=>qp P Γ N ops (L1.map (td ops fl) ++ L2.map (td ops fl)) K E s) ho h2 hr (fun G' E' s' a' w' k1 k2 k3=>ff k1 k3 k2)
      | true =>
        rw [hf] at h
        have lB : ∀ x ∈ L1.map (td ops fl),gu ops x.1 o∧x.2 = false:=by
          intro x hx
          obtain ⟨j,hj,rfl⟩:=List.mem_map.1 hx
          refine ⟨(sy j hj).1,?_⟩
          cases hc : fl.contains j with
          | false=>exact hc
          | true=>exact absurd ⟨hc,hf⟩ (sy j hj).2
        have h2:=sx _ lB h
        exact lA (L:=[]) (K:=fun E s=>qp P Γ N ops (L1.map (td ops fl) ++ L2.map (td ops fl)) K E s) ho h2 hr (fun G' E' s' a' w' k1 k2 k3=>ff k1 k3 k2)
def marked (ops : Array Oper) (fl : List Nat) : List (Oper × Bool):=(List.range ops.size).map (td ops fl)
theorem vH : ∀ (L : List (Oper × Bool)) {K : Env→AS→Prop} {E : Env} {s : AS},qp P Γ N ops L K E s→qp P Γ N ops L (fun E' s'=>K E' s'∧∀ i,i ∉ bP (L.map (·.1))→E' i = E i) E s
  | [],K,E,s,h=>⟨h,fun _ _=>rfl⟩
  | (o,GG) :: L,K,E,s,h=>by
    have iH : ∀ i,i ∉ bP (((o,GG) :: L).map (·.1))→i ∉ bP (L.map (·.1))∧o.dst≠some i:=by
      intro i hi;simp only [bP,List.map_cons,List.filterMap_cons] at hi;refine ⟨fun hm=>hi ?_,fun e=>hi (by simp [e])⟩;simp only [bP] at hm;split
      · exact hm
      · exact List.mem_cons_of_mem _ hm
    simp only [qp] at h ⊢;split at h
    · rename_i he;rw [if_pos he];refine dp _ (fun E' s' hE=>?_) (dL h);refine uf L (fun iG im EE=>⟨EE.1,fun i hi=>?_⟩) (vH L hE.1);obtain ⟨m1,m2⟩:=iH i hi;rw [EE.2 i m1,hE.2 i m2]
    · rename_i he;rw [if_neg he];refine ⟨h.1,?_⟩;have h:=h.2;split at h
      · refine uf L (fun iG im EE=>⟨EE.1,fun i hi=>?_⟩) (vH L h);obtain ⟨m1,m2⟩:=iH i hi;rw [EE.2 i m1,cq m2]
      · exact h
theorem pR {E : Env} {Q : Exit→Env→AS→Prop} (hm : P.follows .mixedOrders = true) (fl : List Nat) {id : Nat} (kS : tc ops fl = true) (h : qp P Γ N ops (marked ops fl) (fun E' s'=>Q .normal E' s') E s) :
    cI P Γ N (.region id ops true) Q E s:=by
  intro G a w hr;refine wpIn_region_any hm ?_;have qt : left ops (Array.replicate ops.size false) = List.range ops.size:=by
    unfold left;rw [List.filter_eq_self];intro i hi;have : i < ops.size:=(by simpa using hi);simp [this]
  have Bf : Rel Γ N G E s a w.drew:=⟨hr.st.drew,hr.size,hr.tmps,hr.defers⟩;refine C7 kS ops.size (Array.replicate ops.size false) (by simp) (by rw [qt]; simp) ?_ (by rw [qt]; exact vH _ h) Bf ?_
  · intro i o ho hl;have : i < ops.size:=(Array.getElem?_eq_some_iff.1 ho).1;simp [this] at hl
  · intro G' E' s' a' w' h1 h2 h3;refine ⟨G',E',s',h1,h2,h3.1,fun i hi=>h3.2 i fun hm=>hi ?_⟩;have : (marked ops fl).map (·.1) = ops.toList:=by
      apply List.ext_getElem?;intro j;simp only [marked,List.getElem?_map];by_cases hj : j < ops.size
      · simp [hj,td]
      · simp [hj]
    have En : i ∈ bP ((marked ops fl).map (·.1)):=hm;rw [this] at En;exact En
end
end Go.AM
namespace Go.AM
open Go Go.RowKit
variable {rd : Option Nat} {P : Program} {Γ : Nat→List AV} {G : Gh} {s : AS} {w : World}
def dE (args : List AV) : Env:=fun i=>args.getD i (.v undef)
def dh (P : Program) (E : Env) (s : AS) : ResultVar→Option AV
  | .tmp t=>some (E t)
  | .cell a T =>
    match E a with
    | .ptr o off =>
      match s.aJ o with
      | some cs=>if P.cellsOf T = 0 then none else pO P T (cs.drop off)
      | none=>none
    | _=>none
def bM (P : Program) (E : Env) (s : AS) : List ResultVar→Option (List AV)
  | []=>some []
  | r :: rs=>match dh P E s r,bM P E s rs with | some v,some vs=>some (v :: vs) | _,_=>none
def fg : List AV→AV
  | [r]=>r
  | rs=>.dZ rs
def bI (P : Program) (rs : List ResultVar) (cO : AV→AS→Prop) (E : Env) (s : AS) : Prop :=
  match bM P E s rs with
  | some vs=>∃ r s',(fg vs).aL r∧s'.le s∧cO r s'
  | none=>False
def cF (P : Program) (rs : List ResultVar) (cO : AV→AS→Prop) : Exit→Env→AS→Prop
  | .normal,E,s=>bI P rs cO E s
  | .ret,E,s=>bI P rs cO E s
  | _,_,_=>False
def Lv (tmps : Array Value) : ResultVar→Sem Value
  | .tmp t=>pure (tmps.getD t undef)
  | .cell b t=>do loadVar t (← asAddr (tmps.getD b undef))
theorem pj (fn : Func) (tmps : Array Value) : results fn tmps = (do let vs ← fn.results.mapM (Lv tmps); pure (if h : vs.size = 1 then vs[0] else .tuple vs)):=by
  unfold results;have : (fun x : ResultVar=>(match x with | .tmp t=>pure (tmps.getD t undef) | .cell a t=>(do loadVar t (← asAddr (tmps.getD a undef)) : Sem Value) : Sem Value)) = Lv tmps:=by
    funext x; cases x <;> rfl
  rw [← this];rfl
theorem Lw {N : Nat} {E : Env} {a : Act} (hr : Rel Γ N G E s a w) {rv : ResultVar} {v : AV} (h : dh P E s rv = some v) :
    ∃ z,(Lv a.tmps rv).run P w = .ok z w∧ar G v z:=by
  cases rv with
  | tmp t=>simp only [dh] at h; cases h; exact ⟨_,rfl,hr.tmps t⟩
  | cell b T =>
    simp only [dh] at h;have hb:=hr.tmps b;split at h
    · rename_i o off hE;rw [hE] at hb;split at h
      · rename_i cs Bd;split at h
        · cases h
        · rename_i hz;simp only [ar] at hb;obtain ⟨Eo,xaT,hu⟩:=hb;obtain ⟨b',vs,h1,h2,h3,h4⟩:=hr.st.aJ o cs Bd;rw [xaT] at h1; cases h1;obtain ⟨z,q1,q2⟩:=pb (w:=w) h hz (h2.drop off) (b:=Eo) (off:=off) (fun j u hj=>by
            rw [cH];rw [List.getElem?_drop] at hj;exact (h4 _ _ hj).1)
          refine ⟨z,?_,q2⟩;simp only [Lv];rw [hu];simp [asAddr,q1]
      · cases h
    · cases h
theorem vI {N : Nat} {E : Env} {a : Act} (hr : Rel Γ N G E s a w) : ∀ {rs : List ResultVar} {vs : List AV},bM P E s rs = some vs →
    ∃ zs : List Value,(rs.mapM (Lv a.tmps)).run P w = .ok zs w∧al G vs zs
  | [],vs,h=>by simp only [bM] at h; cases h; exact ⟨[],by simp,by simp [al]⟩
  | r :: rs,vs,h=>by
    simp only [bM] at h;split at h
    · rename_i v RV h1 h2;cases h;obtain ⟨z,q1,q2⟩:=Lw hr h1;obtain ⟨zs,q3,q4⟩:=vI hr h2;refine ⟨z :: zs,?_,by simp only [al]; exact ⟨z,zs,rfl,q2,q4⟩⟩;simp only [List.mapM_cons,Sem.run_bind,q1,Result.andThen_ok,q3,Sem.run_pure]
    · cases h
theorem yW {vs : List AV} {zs : List Value} (h : al G vs zs) : ar G (fg vs) (if h : zs.toArray.size = 1 then zs.toArray[0] else .tuple zs.toArray):=by
  have hl:=h.length;match vs,zs,h with
  | [],[],h=>simp only [fg,ar]; exact ⟨[],rfl,h⟩
  | [v],[z],h =>
    simp only [al] at h;obtain ⟨u,us,h1,h2,_⟩:=h;cases h1;simpa [fg] using h2
  | v :: v' :: vs,z :: z' :: zs,h =>
    simp only [fg,ar];exact ⟨z :: z' :: zs,by simp,h⟩
  | [],z :: zs,h=>simp at hl
  | v :: vs,[],h=>simp at hl
  | [v],z :: z' :: zs,h=>simp at hl
  | v :: v' :: vs,[z],h=>simp at hl
theorem JU {f : FuncId} {fn : Func} {c : Code} {args : List AV} {cO : AV→AS→Prop} {s : AS} (hf : P.funcs[f]? = some fn) (hb : fn.body = some c) (hn : args.length≤fn.ntmps)
    (h : cI P Γ fn.ntmps c (cF P fn.results.toList cO) (dE args) s) : ah P Γ f args s cO:=by
  intro G w vs hs hv;have Oy:=hv.length;refine calls_of_wp hf hb ?_;have C8 : Rel Γ fn.ntmps (G.ec []) (dE args) s { tmps:=vs.toArray ++ Array.replicate (fn.ntmps - vs.toArray.size) undef,defers:=[] } w:=by
    refine ⟨hs.ec,by simp; omega,fun i=>?_,rfl⟩;simp only [dE];by_cases hi : i < args.length
    · obtain ⟨u,h1,h2⟩:=hv.getD i hi;have aO : i < vs.length:=(by omega);rw [Array.getD_eq_getD_getElem?,Array.getElem?_append_left (by simpa using aO)];simp only [List.getElem?_toArray,h1,Option.getD_some];exact ar.ec _ _ h2
    · have e1 : args.getD i (.v undef) = .v undef:=(by simp [List.getD,List.getElem?_eq_none (Nat.le_of_not_lt hi)]);rw [e1,Array.getD_eq_getD_getElem?,Array.getElem?_append_right (by simp; omega)];simp only [ar];cases hh : (Array.replicate (fn.ntmps - vs.toArray.size) undef)[i - vs.toArray.size]? with
      | none=>rfl
      | some u =>
        rw [Array.getElem?_replicate] at hh;split at hh
        · cases hh; rfl
        · cases hh
  refine wpIn_wide.1 (wpIn_mono (F:=xf none) (n:=0) (h _ _ w C8) ?_);rintro e a' w' ⟨G',E',s',h1,h2,h3,h4⟩;have fin : bI P fn.results.toList cO E' s'→bodyPost P fn (fun e w'=>∃ G' r v s',e = .returned v∧G.le G'∧aU Γ G' s' w'∧ar G' r v∧cO r s') .normal a' w':=by
    intro hF;unfold bI at hF;split at hF
    · rename_i RV vB;obtain ⟨r,s2,q1,q2,q3⟩:=hF;obtain ⟨zs,r1,r2⟩:=vI h2 vB;refine ⟨h2.defers.trans h1.df,if h : zs.toArray.size = 1 then zs.toArray[0] else .tuple zs.toArray,?_,G'.ec G.df,r,_,s2,rfl,Gh.Es h1,(h2.st.mono q2).ec,ar.ec _ _ (q1 _ _ (yW r2)),q3⟩;rw [pj,Array.mapM_eq_mapM_toList];simp only [Sem.run_bind,Sem.run_map,r1,Result.andThen_ok,Sem.run_pure]
    · exact hF.elim
  cases e <;> simp only [cF] at h3;case normal=>exact fin h3
  case ret=>exact fin h3
def fw (Γ : Nat→List AV) (N : Nat) (E : Env) (s : AS) (E' : Env) (s' : AS) : Prop :=
  ∀ (G : Gh) (a : Act) (w : World),Rel Γ N G E s a w→∃ G',G.le G'∧Rel Γ N G' E' s' a w
theorem fw.freeze {N : Nat} {E : Env} {s : AS} {d o off sz n cap : Nat} {cs : List AV} (hE : E d = .dj o off sz n cap) (ho : s.aJ o = some cs) (hle : off + n * sz≤cs.length) :
    fw Γ N E s (aG E d (.sl sz n ((cs.drop off).take (n * sz)) .no)) (s.drop o):=by
  intro G a w hr;obtain ⟨b,vs,h1,h2,h3,h4,h5⟩:=hr.st.freeze ho;refine ⟨_,h3,h5,hr.size,fun i=>?_,hr.defers.trans h3.df.symm⟩;simp only [aG];split
  · rename_i e;subst e;have:=hr.tmps i;rw [hE] at this;simp only [ar] at this;obtain ⟨b',k1,k2,k3⟩:=this;rw [h1] at k1; cases k1;have hl:=h2.length;rw [k2];simp only [ar];refine .inl ⟨b,off,cap,(vs.drop off).take (n * sz),rfl,by simp; omega,k3,al.mono h3 _ _ ((h2.drop _).take _),?_,trivial⟩;have:=(h4.drop off).take (n * sz);simpa using this
  · exact ar.mono h3 _ _ (hr.tmps i)
theorem jz {N : Nat} {E : Env} {Q : Exit→Env→AS→Prop} {id : Nat} {ops : Array Oper}
    (h : AX P Γ N ops ops.toList (fun E' s'=>∃ iG im,fw Γ N E' s' iG im∧(∀ i,i ∉ bP ops.toList→iG i = E' i)∧Q .normal iG im) E s) : cI P Γ N (.region id ops false) Q E s:=by
  intro G a w hr;refine wpIn_region (kA ops.toList _ ?_ (dD _ h) hr ?_)
  · apply List.ext_getElem?;intro i;simp only [List.getElem?_map];by_cases hi : i < ops.size
    · simp [hi]
    · simp [hi]
  · intro G' E' s' a' w' h1 h2 h3;obtain ⟨⟨iG,im,k1,k2,k3⟩,k4⟩:=h3;obtain ⟨yu,q1,q2⟩:=k1 G' a' w' h2;exact ⟨yu,iG,im,h1.trans q1,q2,k3,fun i hi=>by rw [k2 i hi,k4 i hi]⟩
theorem AV.gb {a b c d : AV} (h : a.aL c) (k : b.aL d) : (AV.dZ [a,b]).aL (.dZ [c,d]):=by
  intro G v hv;simp only [ar,al] at hv ⊢;obtain ⟨vs,rfl,u,us,rfl,h1,u',vA,rfl,h2,rfl⟩:=hv;exact ⟨_,rfl,u,_,rfl,h G u h1,u',_,rfl,k G u' h2,rfl⟩
theorem AV.eD {a b c d e f : AV} (h : a.aL d) (k : b.aL e) (l : c.aL f) : (AV.dZ [a,b,c]).aL (.dZ [d,e,f]):=by
  intro G v hv;simp only [ar,al] at hv ⊢;obtain ⟨vs,rfl,u,us,rfl,h1,u',vA,rfl,h2,u'',xgc,rfl,h3,rfl⟩:=hv;exact ⟨_,rfl,u,_,rfl,h G u h1,u',_,rfl,k G u' h2,u'',_,rfl,l G u'' h3,rfl⟩
end Go.AM
namespace Go.AM
open Go Go.RowKit
variable {P : Program} {Γ : Nat→List AV} {s : AS}
theorem ab {f : FuncId} {fn : Func} {c : Code} {rs : Array ResultVar} {N : Nat} {args : List AV} {cO : AV→AS→Prop} {s : AS} (hf : P.funcs[f]? = some fn) (hb : fn.body = some c) (hN : fn.ntmps = N) (JV : fn.results = rs) (hn : args.length≤N)
    (h : cI P Γ N c (cF P rs.toList cO) (dE args) s) : ah P Γ f args s cO:=by
  subst hN JV;exact JU hf hb hn h
theorem AS.cQ (s : AS) (o : Nat) (cs : List AV) : (s.set o cs).aJ = aG s.aJ o (some cs):=rfl
theorem AS.B6 (s : AS) (t e : Nat) : (s.cd t e).aJ = s.aJ:=rfl
theorem AS.lP (s : AS) (o : Nat) : (s.drop o).aJ = aG s.aJ o none:=rfl
theorem AS.C9 (s : AS) (o : Nat) (cs : List AV) : (s.set o cs).own = s.own:=rfl
theorem AS.xi (s : AS) (t e : Nat) : (s.cd t e).own = aG s.own t (some e):=rfl
theorem AS.EF (s : AS) (o : Nat) : (s.drop o).own = s.own:=rfl
theorem AS.set_set (s : AS) (o : Nat) (a b : List AV) : (s.set o a).set o b = s.set o b:=by
  simp only [AS.set,AS.mk.injEq,and_true];funext i;simp only [aG];split <;> rfl
def ui (fl : List Nat) : Nat→List Oper→List (Oper × Bool)
  | _,[]=>[]
  | k,o :: L=>(o,fl.contains k) :: ui fl (k + 1) L
theorem B7 (fl : List Nat) : ∀ (L : List Oper) (k i : Nat),(ui fl k L)[i]? = (L[i]?).map fun o=>(o,fl.contains (k + i))
  | [],k,i=>by simp [ui]
  | o :: L,k,0=>by simp [ui]
  | o :: L,k,i + 1=>by
    simp only [ui,List.getElem?_cons_succ];rw [B7 fl L (k + 1) i,show k + 1 + i = k + (i + 1) from by omega]
theorem B8 (ops : Array Oper) (fl : List Nat) : marked ops fl = ui fl 0 ops.toList:=by
  apply List.ext_getElem?;intro i;rw [B7];simp only [marked,List.getElem?_map,Nat.zero_add];by_cases hi : i < ops.size
  · simp [hi,td]
  · simp [hi]
section
variable {N : Nat} {E : Env} {Q : Exit→Env→AS→Prop}
theorem awp_seq_k {x y : Code} (h : ∀ K : Env→AS→Prop,(∀ E s,cI P Γ N y Q E s→K E s)→cI P Γ N x (av K Q) E s) : cI P Γ N (.seq x y) Q E s :=
  kk (h _ fun _ _ h=>h)
theorem yX {id : Nat} {ops : Array Oper} {y : Code} (h : ∀ K : Env→AS→Prop,(∀ E s,cI P Γ N y Q E s→K E s)→AX P Γ N ops ops.toList K E s) : cI P Γ N (.seq (.region id ops false) y) Q E s :=
  kk (pg (h _ fun _ _ h=>h))
theorem yY {id : Nat} {ops : Array Oper} (h : ∀ K : Env→AS→Prop,(∀ E s,Q .normal E s→K E s)→AX P Γ N ops ops.toList K E s) : cI P Γ N (.region id ops false) Q E s :=
  pg (h _ fun _ _ h=>h)
theorem awp_cond_k {c : Operand} {x y : Code} (h : ∀ X Y : Prop,(cI P Γ N x Q E s→X)→(cI P Γ N y Q E s→Y)→match aN Γ E c with | .v (.bool t)=>(t = true→X)∧(t = false→Y) | _=>False) : cI P Γ N (.cond c x y) Q E s:=by
  have h1:=h _ _ id id;split at h1
  · rename_i t hc; exact yS hc h1.1 h1.2
  · exact h1.elim
theorem Da (hm : P.follows .mixedOrders = true) (fl : List Nat) {id : Nat} {ops : Array Oper} {y : Code} (kS : tc ops fl = true) (h : ∀ K : Env→AS→Prop,(∀ E s,cI P Γ N y Q E s→K E s)→qp P Γ N ops (ui fl 0 ops.toList) K E s) :
    cI P Γ N (.seq (.region id ops true) y) Q E s :=
  kk (pR hm fl kS (by rw [B8]; exact h _ fun _ _ h=>h))
theorem Db (hm : P.follows .mixedOrders = true) (fl : List Nat) {id : Nat} {ops : Array Oper} (kS : tc ops fl = true) (h : ∀ K : Env→AS→Prop,(∀ E s,Q .normal E s→K E s)→qp P Γ N ops (ui fl 0 ops.toList) K E s) :
    cI P Γ N (.region id ops true) Q E s :=
  pR hm fl kS (by rw [B8]; exact h _ fun _ _ h=>h)
end
end Go.AM
namespace Go.AM
open Go Go.RowKit
section
variable {k : IntKind}
theorem mj (h : k.signed = false) (x : Int) : k.wrap x = x % (2 ^ k.bits : Nat):=by
  cases k <;> simp [IntKind.signed] at h <;> simp [IntKind.wrap,IntKind.bits,IntKind.signed] <;> omega
theorem R2 (h : k.signed = false) (a b : Nat) : jn k a b = ((a + b) % 2 ^ k.bits : Nat):=by
  rw [jn,mj h]; push_cast; rfl
theorem R3 (h : k.signed = false) (a b : Nat) : kO k a b = ((a * b) % 2 ^ k.bits : Nat):=by
  rw [kO,mj h]; push_cast; rfl
theorem JW (h : k.signed = false) (a b : Nat) (hb : b≤a) (ha : a < 2 ^ k.bits) : ed k a b = ((a - b : Nat) : Int):=by
  rw [ed,mj h,show (a : Int) - b = ((a - b : Nat) : Int) from by omega,← Int.natCast_emod,Nat.mod_eq_of_lt (by omega)]
theorem yZ (a : Nat) (n : Nat) : BitVec.ofInt n (a : Int) = BitVec.ofNat n a:=by simp
theorem Lx (h : k.signed = false) (a b : Nat) (ha : a < 2 ^ k.bits) (hb : b < 2 ^ k.bits) : A9 k a b = ((a &&& b : Nat) : Int):=by
  rw [A9,mj h,yZ,yZ,BitVec.toNat_and,BitVec.toNat_ofNat,BitVec.toNat_ofNat,Nat.mod_eq_of_lt ha,Nat.mod_eq_of_lt hb,← Int.natCast_emod,Nat.mod_eq_of_lt (Nat.lt_of_le_of_lt Nat.and_le_left ha)]
theorem QA (h : k.signed = false) (a b : Nat) (ha : a < 2 ^ k.bits) (hb : b < 2 ^ k.bits) : Li k a b = ((a ||| b : Nat) : Int):=by
  rw [Li,mj h,yZ,yZ,BitVec.toNat_or,BitVec.toNat_ofNat,BitVec.toNat_ofNat,Nat.mod_eq_of_lt ha,Nat.mod_eq_of_lt hb,← Int.natCast_emod,Nat.mod_eq_of_lt (Nat.or_lt_two_pow ha hb)]
theorem R4 (h : k.signed = false) (a b : Nat) (ha : a < 2 ^ k.bits) (hb : b < 2 ^ k.bits) : Lj k a b = ((a ^^^ b : Nat) : Int):=by
  rw [Lj,mj h,yZ,yZ,BitVec.toNat_xor,BitVec.toNat_ofNat,BitVec.toNat_ofNat,Nat.mod_eq_of_lt ha,Nat.mod_eq_of_lt hb,← Int.natCast_emod,Nat.mod_eq_of_lt (Nat.xor_lt_two_pow ha hb)]
theorem Hk (h : k.signed = false) (a c : Nat) : oY k a c = ((a * 2 ^ (min c k.bits)) % 2 ^ k.bits : Nat):=by
  rw [oY,mj h]; push_cast; simp
theorem vJ (a c : Nat) : lW k a c = ((a / 2 ^ (min c k.bits) : Nat) : Int):=by
  rw [lW,Int.fdiv_eq_ediv_of_nonneg _ (Int.le_of_lt (Int.pow_pos (by decide)))]; push_cast; simp
theorem lC (h : k.signed = false) (a : Nat) : ee k a = ((a % 2 ^ k.bits : Nat) : Int):=by
  rw [ee,mj h]; push_cast; rfl
theorem R5 (h : k.signed = false) (a : Nat) (ha : a < 2 ^ k.bits) : Lk k a = ((2 ^ k.bits - 1 - a : Nat) : Int):=by
  have e : BitVec.ofInt k.bits (if k.signed = true then -1 else k.max) = BitVec.allOnes k.bits:=by
    cases k <;> simp [IntKind.signed] at h <;> rfl
  have : (BitVec.allOnes k.bits ^^^ BitVec.ofNat k.bits a).toNat = 2 ^ k.bits - 1 - a:=by
    rw [BitVec.allOnes_xor,BitVec.toNat_not,BitVec.toNat_ofNat,Nat.mod_eq_of_lt ha]
  rw [Lk,mj h,e,yZ,this,← Int.natCast_emod,Nat.mod_eq_of_lt (by omega)]
theorem R6 (h : k.signed = false) (a b : Nat) (ha : a < 2 ^ k.bits) : ou k a b = ((a / b : Nat) : Int):=by
  rw [ou,mj h,show (a : Int).tdiv b = ((a / b : Nat) : Int) from (Int.ofNat_tdiv a b).symm,← Int.natCast_emod,Nat.mod_eq_of_lt (Nat.lt_of_le_of_lt (Nat.div_le_self a b) ha)]
theorem vK (a b : Nat) : m8 a b = ((a % b : Nat) : Int):=by rw [m8]; exact (Int.ofNat_tmod a b).symm
theorem gF {a b : Int} (h : -9223372036854775808≤a + b∧a + b≤9223372036854775807) : jn .i64 a b = a + b:=IntWalk.i64_in _ h
theorem b6 {a b : Int} (h : -9223372036854775808≤a - b∧a - b≤9223372036854775807) : ed .i64 a b = a - b:=IntWalk.i64_in _ h
theorem fh {a b : Int} (h : -9223372036854775808≤a * b∧a * b≤9223372036854775807) : kO .i64 a b = a * b:=IntWalk.i64_in _ h
theorem JX {a : Int} (h : -9223372036854775808≤a∧a≤9223372036854775807) : ee .i64 a = a:=IntWalk.i64_in _ h
end
variable {P : Program}
def G0 (w : World) : Gh:={ ro:=fun b j=>w.cell? ⟨b,j,none⟩,obj:=fun _=>none,tok:=fun _ _=>none,no:=0,nt:=0,B:=w.heap.size,w0:=w,df:=[] }
def s0 : AS:=⟨fun _=>none,fun _=>none⟩
theorem aU.start (Γ : Nat→List AV) (w : World) (hg : ∀ g,∃ vs,al (G0 w) (Γ g) vs∧gg (G0 w) g 0 vs) : aU Γ (G0 w) s0 w where
  ro _ _ _ h:=h
  aJ o cs h:=by simp [s0] at h
  dI o b h:=by simp [G0] at h
  inj o o' b h:=by simp [G0] at h
  own t e h:=by simp [s0] at h
  dy t e t' e' b st en iC yq h:=by simp [s0] at h
  cB t e h:=by simp [s0] at h
  dn o _:=rfl
  cG t _ _:=rfl
  below:=Below.refl _ _
  others:=dS.refl _
  base:=Nat.le_refl _
  jm:=hg
  soft b c T lo hi hb hc:=by
    rcases hb with ⟨o,h⟩ | ⟨t,e,r,h,_⟩
    · simp [G0] at h
    · simp [s0] at h
theorem ah.start {Γ : Nat→List AV} {f : FuncId} {args : List AV} {cO : AV→AS→Prop} (h : ah P Γ f args s0 cO) {w : World} {vs : List Value} (hv : al (G0 w) args vs)
    (hg : ∀ g,∃ vs,al (G0 w) (Γ g) vs∧gg (G0 w) g 0 vs) (hp : ∀ r s',cO r s'→r = .v (.bool true)) :
    Calls P f vs.toArray w fun e w'=>e = .returned (.bool true)∧Below w.heap.size w w':=by
  refine (h (G0 w) w vs (aU.start Γ w hg) hv).mono ?_;rintro e w' ⟨G',r,v,s',rfl,h1,h2,h3,h4⟩;have hr:=hp r s' h4;subst hr;simp only [ar] at h3;subst h3;refine ⟨rfl,?_⟩;have hb:=h2.below;rw [h1.B,h1.w0] at hb;exact hb
def Γ0 : Nat→List AV:=fun _=>[]
theorem UT (w : World) : ∀ g,∃ vs,al (G0 w) (Γ0 g) vs∧gg (G0 w) g 0 vs:=fun g=>⟨[],by simp [Γ0,al],fun j u h=>by simp at h⟩
end Go.AM
namespace Go.AM
open Go Go.RowKit
def be : Nat→Nat→List UInt8
  | 0,_=>[]
  | k + 1,n=>UInt8.ofNat (n / 2 ^ (8 * k)) :: be k n
@[simp] theorem aW (k n : Nat) : (be k n).length = k:=by
  induction k with
  | zero=>rfl
  | succ k ih=>simp [be,ih]
def bL : AV:=.v (.slice none 0 0)
def ak (l : List UInt8) (sp : Sp) : AV:=.sl 1 l.length (l.map aw) sp
def Buf (s0 s : AS) (x : AV) (l : List UInt8) : Prop :=
  (x = bL∧l = [])∨∃ t e,x = ak l (.own t e)∧s.own t = some e∧s0.own t = none
structure yv (s0 s : AS) (p : Nat) (l : List UInt8) (bad : Bool) : Prop where
  le : s0.le s
  new : s0.aJ p = none
  obj : ∃ x,s.aJ p = some [x,.v (.bool bad)]∧Buf s0 s x l
theorem AS.aj (s : AS) (o : Nat) (cs : List AV) : (s.set o cs).aJ o = some cs:=by simp [AS.set]
theorem AS.km (s : AS) (t e : Nat) : (s.cd t e).own t = some e:=by simp [AS.cd]
theorem yv.Dc {s0 s : AS} {p : Nat} {l : List UInt8} {bad : Bool} (h : yv s0 s p l bad) {t e : Nat} {m : List UInt8} (b : Bool) (ht : s0.own t = none) : yv s0 ((s.cd t e).set p [ak m (.own t e),.v (.bool b)]) p m b :=
  ⟨AS.bg (AS.bC h.le ht e) h.new _,h.new,_,AS.aj _ _ _,.inr ⟨t,e,rfl,by simp [AS.set,AS.cd],ht⟩⟩
theorem yv.EG {s0 s : AS} {p : Nat} {l : List UInt8} {bad : Bool} (h : yv s0 s p l bad) {t : Nat} (ht : s.own t = none) : s0.own t = none:=by
  cases h0 : s0.own t with
  | none=>rfl
  | some e=>rw [h.le.own t e h0] at ht; cases ht
theorem xj (l : List UInt8) : (l.map aw).all AV.one = true:=by simp
theorem Ly (n : Nat) : aw (UInt8.ofNat n) = .v (.int .u8 (ee .u8 (n : Int))):=by
  rw [lC rfl];simp [aw,IntKind.bits]
theorem OB (n i : Nat) (hi : i < 8) : AV.v (.int .u8 (ee .u8 (lW .u64 (n : Int) (8 * (i : Int))))) = aw (UInt8.ofNat (n / 2 ^ (8 * i))):=by
  have e : (8 * (i : Int)) = ((8 * i : Nat) : Int):=(by omega);rw [e,vJ,Ly];have : min (8 * i) IntKind.u64.bits = 8 * i:=(by simp [IntKind.bits]; omega);rw [this]
theorem yv.one {s0 s : AS} {p : Nat} {bad : Bool} (h : yv s0 s p [] bad) {t : Nat} (ht : s.own t = none) (b : UInt8) : yv s0 ((s.cd t 0).set p [.sl 1 1 [aw b] (.own t 0),.v (.bool false)]) p [b] false :=
  h.Dc (m:=[b]) false (h.EG ht)
theorem yv.more {s0 s : AS} {p : Nat} {l : List UInt8} {bad : Bool} (h : yv s0 s p l bad) {t e : Nat} (ht : s0.own t = none) (m : List UInt8) {n : Nat} (hn : n = l.length + m.length) {cs : List AV} (hc : cs = l.map aw ++ m.map aw) :
    yv s0 ((s.cd t e).set p [.sl 1 n cs (.own t e),.v (.bool false)]) p (l ++ m) false:=by
  subst hn hc;have:=h.Dc (t:=t) (e:=e) (m:=l ++ m) false ht;simpa [ak] using this
end Go.AM
namespace Go.AM
open Go Go.RowKit
variable {P : Program} {Γ : Nat→List AV} {N : Nat} {ops : Array Oper} {K : Env→AS→Prop} {E : Env} {s : AS}
def R7 : Op→Bool
  | .call { callee:=.value _,.. }=>true
  | _=>false
theorem QB : ∃ f : Program→(Nat→List AV)→Nat→Array Oper→List Oper→(Env→AS→Prop)→Env→AS→Prop,f = AX:=⟨_,rfl⟩
noncomputable def AY : Program→(Nat→List AV)→Nat→Array Oper→List Oper→(Env→AS→Prop)→Env→AS→Prop:=Classical.choose QB
theorem ay : AY = AX:=Classical.choose_spec QB
def vL (P : Program) (Γ : Nat→List AV) (N : Nat) (ops : Array Oper) (k : FuncId) (as : List AV) (dst : Option Tmp) (rest : List Oper) (K : Env→AS→Prop) (E : Env) (s : AS) : Prop :=
  ah P Γ k as s fun r s'=>AY P Γ N ops rest K (bD E dst r) s'
def y0 (P : Program) (Γ : Nat→List AV) (N : Nat) (ops : Array Oper) (fv : AV) (as : List AV) (dst : Option Tmp) (rest : List Oper) (K : Env→AS→Prop) (E : Env) (s : AS) : Prop :=
  match fv with
  | .v (.func (.func k) first dm)=>first.isEmpty = true∧dm.isEmpty = true∧ai P k = true∧vL P Γ N ops k as dst rest K E s
  | .tN k dm=>ai P k = true∧vL P Γ N ops k (as ++ dm) dst rest K E s
  | _=>False
theorem y9 (k : FuncId) (as : List AV) (dst : Option Tmp) (rest : List Oper) : y0 P Γ N ops (.v (.func (.func k) #[] #[])) as dst rest K E s = (ai P k = true∧vL P Γ N ops k as dst rest K E s):=by
  simp [y0]
theorem za (k : FuncId) (dm as : List AV) (dst : Option Tmp) (rest : List Oper) : y0 P Γ N ops (.tN k dm) as dst rest K E s = (ai P k = true∧vL P Γ N ops k (as ++ dm) dst rest K E s):=rfl
theorem ae {k : FuncId} {as : List AV} {dst : Option Tmp} {rest : List Oper} {Q : AV→AS→Prop} (h : ah P Γ k as s Q) (hk : ∀ r s',Q r s'→AY P Γ N ops rest K (bD E dst r) s') : vL P Γ N ops k as dst rest K E s:=h.mono hk
theorem Hl : AY P Γ N ops [] K E s = K E s:=by rw [ay]; rfl
theorem gG {dst : Option Tmp} {op : Op} {ty : TypeId} {pos : String} {after : Array Edge} {rest : List Oper} (_hc : R7 op = false) :
    AY P Γ N ops ({ dst:=dst,op:=op,type:=ty,pos:=pos,after:=after,guard:=none } :: rest) K E s = ((∀ d,dst = some d→d < N)∧cE P Γ (aN Γ E) s (fun r s'=>AY P Γ N ops rest K (bD E dst r) s') op):=by
  simp only [ay,AX]
theorem Hm {o : Oper} {rest : List Oper} {j d : Nat} {want t : Bool} (hg : o.guard = some (j,want)) (hj : rS ops j = some d) (hE : E d = .v (.bool t)) :
    AY P Γ N ops (o :: rest) K E s = if t = want then AY P Γ N ops ({ o with guard:=none } :: rest) K E s else ((∀ d,o.dst = some d→d < N)∧AY P Γ N ops rest K (bD E o.dst (.v undef)) s):=by
  simp only [ay,AX,hg,hj,hE];split <;> rfl
theorem IE {dst : Option Tmp} (x : Operand) {ty : TypeId} {pos : String} {after : Array Edge} {rest : List Oper} : AY P Γ N ops ({ dst:=dst,op:=(.move x),type:=ty,pos:=pos,after:=after,guard:=none } :: rest) K E s = ((∀ d,dst = some d→d < N)∧cE P Γ (aN Γ E) s (fun r s'=>AY P Γ N ops rest K (bD E dst r) s') (.move x)):=gG rfl
theorem B9 {dst : Option Tmp} (x : Operand) {ty : TypeId} {pos : String} {after : Array Edge} {rest : List Oper} : AY P Γ N ops ({ dst:=dst,op:=(.assign x),type:=ty,pos:=pos,after:=after,guard:=none } :: rest) K E s = ((∀ d,dst = some d→d < N)∧cE P Γ (aN Γ E) s (fun r s'=>AY P Γ N ops rest K (bD E dst r) s') (.assign x)):=gG rfl
theorem IG {dst : Option Tmp} (a b c : Operand) {ty : TypeId} {pos : String} {after : Array Edge} {rest : List Oper} : AY P Γ N ops ({ dst:=dst,op:=(.pick a b c),type:=ty,pos:=pos,after:=after,guard:=none } :: rest) K E s = ((∀ d,dst = some d→d < N)∧cE P Γ (aN Γ E) s (fun r s'=>AY P Γ N ops rest K (bD E dst r) s') (.pick a b c)):=gG rfl
theorem EH {dst : Option Tmp} (t : TypeId) {ty : TypeId} {pos : String} {after : Array Edge} {rest : List Oper} : AY P Γ N ops ({ dst:=dst,op:=(.alloc t),type:=ty,pos:=pos,after:=after,guard:=none } :: rest) K E s = ((∀ d,dst = some d→d < N)∧cE P Γ (aN Γ E) s (fun r s'=>AY P Γ N ops rest K (bD E dst r) s') (.alloc t)):=gG rfl
theorem LA {dst : Option Tmp} (t : TypeId) (x : Operand) {ty : TypeId} {pos : String} {after : Array Edge} {rest : List Oper} : AY P Γ N ops ({ dst:=dst,op:=(.box t x),type:=ty,pos:=pos,after:=after,guard:=none } :: rest) K E s = ((∀ d,dst = some d→d < N)∧cE P Γ (aN Γ E) s (fun r s'=>AY P Γ N ops rest K (bD E dst r) s') (.box t x)):=gG rfl
theorem EI {dst : Option Tmp} (t : TypeId) (ps : Array (Nat × Operand)) {ty : TypeId} {pos : String} {after : Array Edge} {rest : List Oper} : AY P Γ N ops ({ dst:=dst,op:=(.build t ps),type:=ty,pos:=pos,after:=after,guard:=none } :: rest) K E s = ((∀ d,dst = some d→d < N)∧cE P Γ (aN Γ E) s (fun r s'=>AY P Γ N ops rest K (bD E dst r) s') (.build t ps)):=gG rfl
theorem sA {dst : Option Tmp} (t : TypeId) (n : Nat) (ps : Array (Nat × Operand)) {ty : TypeId} {pos : String} {after : Array Edge} {rest : List Oper} : AY P Γ N ops ({ dst:=dst,op:=(.buildSlice t n ps),type:=ty,pos:=pos,after:=after,guard:=none } :: rest) K E s = ((∀ d,dst = some d→d < N)∧cE P Γ (aN Γ E) s (fun r s'=>AY P Γ N ops rest K (bD E dst r) s') (.buildSlice t n ps)):=gG rfl
theorem IH {dst : Option Tmp} (t : TypeId) (x : Operand) {ty : TypeId} {pos : String} {after : Array Edge} {rest : List Oper} : AY P Γ N ops ({ dst:=dst,op:=(.load t x),type:=ty,pos:=pos,after:=after,guard:=none } :: rest) K E s = ((∀ d,dst = some d→d < N)∧cE P Γ (aN Γ E) s (fun r s'=>AY P Γ N ops rest K (bD E dst r) s') (.load t x)):=gG rfl
theorem EJ {dst : Option Tmp} (t : TypeId) (x y : Operand) {ty : TypeId} {pos : String} {after : Array Edge} {rest : List Oper} : AY P Γ N ops ({ dst:=dst,op:=(.store t x y),type:=ty,pos:=pos,after:=after,guard:=none } :: rest) K E s = ((∀ d,dst = some d→d < N)∧cE P Γ (aN Γ E) s (fun r s'=>AY P Γ N ops rest K (bD E dst r) s') (.store t x y)):=gG rfl
theorem xk {dst : Option Tmp} (x : Operand) {ty : TypeId} {pos : String} {after : Array Edge} {rest : List Oper} : AY P Γ N ops ({ dst:=dst,op:=(.nilCheck x),type:=ty,pos:=pos,after:=after,guard:=none } :: rest) K E s = ((∀ d,dst = some d→d < N)∧cE P Γ (aN Γ E) s (fun r s'=>AY P Γ N ops rest K (bD E dst r) s') (.nilCheck x)):=gG rfl
theorem EK {dst : Option Tmp} (o : BinOp) (t : TypeId) (x y : Operand) (u : TypeId) {ty : TypeId} {pos : String} {after : Array Edge} {rest : List Oper} : AY P Γ N ops ({ dst:=dst,op:=(.binOp o t x y u),type:=ty,pos:=pos,after:=after,guard:=none } :: rest) K E s = ((∀ d,dst = some d→d < N)∧cE P Γ (aN Γ E) s (fun r s'=>AY P Γ N ops rest K (bD E dst r) s') (.binOp o t x y u)):=gG rfl
theorem II {dst : Option Tmp} (o : UnOp) (t : TypeId) (x : Operand) {ty : TypeId} {pos : String} {after : Array Edge} {rest : List Oper} : AY P Γ N ops ({ dst:=dst,op:=(.unOp o t x),type:=ty,pos:=pos,after:=after,guard:=none } :: rest) K E s = ((∀ d,dst = some d→d < N)∧cE P Γ (aN Γ E) s (fun r s'=>AY P Γ N ops rest K (bD E dst r) s') (.unOp o t x)):=gG rfl
theorem zb {dst : Option Tmp} (t u : TypeId) (x : Operand) {ty : TypeId} {pos : String} {after : Array Edge} {rest : List Oper} : AY P Γ N ops ({ dst:=dst,op:=(.convert t u x),type:=ty,pos:=pos,after:=after,guard:=none } :: rest) K E s = ((∀ d,dst = some d→d < N)∧cE P Γ (aN Γ E) s (fun r s'=>AY P Γ N ops rest K (bD E dst r) s') (.convert t u x)):=gG rfl
theorem oA {dst : Option Tmp} (t : TypeId) (x : Operand) {ty : TypeId} {pos : String} {after : Array Edge} {rest : List Oper} : AY P Γ N ops ({ dst:=dst,op:=(.makeInterface t x),type:=ty,pos:=pos,after:=after,guard:=none } :: rest) K E s = ((∀ d,dst = some d→d < N)∧cE P Γ (aN Γ E) s (fun r s'=>AY P Γ N ops rest K (bD E dst r) s') (.makeInterface t x)):=gG rfl
theorem xl {dst : Option Tmp} (f : Fn) (a b : Array Operand) {ty : TypeId} {pos : String} {after : Array Edge} {rest : List Oper} : AY P Γ N ops ({ dst:=dst,op:=(.makeFunc f a b),type:=ty,pos:=pos,after:=after,guard:=none } :: rest) K E s = ((∀ d,dst = some d→d < N)∧cE P Γ (aN Γ E) s (fun r s'=>AY P Γ N ops rest K (bD E dst r) s') (.makeFunc f a b)):=gG rfl
theorem uj {dst : Option Tmp} (t : TypeId) (x y : Operand) {ty : TypeId} {pos : String} {after : Array Edge} {rest : List Oper} : AY P Γ N ops ({ dst:=dst,op:=(.makeSlice t x y),type:=ty,pos:=pos,after:=after,guard:=none } :: rest) K E s = ((∀ d,dst = some d→d < N)∧cE P Γ (aN Γ E) s (fun r s'=>AY P Γ N ops rest K (bD E dst r) s') (.makeSlice t x y)):=gG rfl
theorem EL {dst : Option Tmp} (t : TypeId) (x : Operand) (a b c : Option Operand) {ty : TypeId} {pos : String} {after : Array Edge} {rest : List Oper} : AY P Γ N ops ({ dst:=dst,op:=(.slice t x a b c),type:=ty,pos:=pos,after:=after,guard:=none } :: rest) K E s = ((∀ d,dst = some d→d < N)∧cE P Γ (aN Γ E) s (fun r s'=>AY P Γ N ops rest K (bD E dst r) s') (.slice t x a b c)):=gG rfl
theorem um {dst : Option Tmp} (t : TypeId) (x : Operand) (i : Nat) {ty : TypeId} {pos : String} {after : Array Edge} {rest : List Oper} : AY P Γ N ops ({ dst:=dst,op:=(.fieldAddr t x i),type:=ty,pos:=pos,after:=after,guard:=none } :: rest) K E s = ((∀ d,dst = some d→d < N)∧cE P Γ (aN Γ E) s (fun r s'=>AY P Γ N ops rest K (bD E dst r) s') (.fieldAddr t x i)):=gG rfl
theorem EM {dst : Option Tmp} (t : TypeId) (x : Operand) (i : Nat) {ty : TypeId} {pos : String} {after : Array Edge} {rest : List Oper} : AY P Γ N ops ({ dst:=dst,op:=(.field t x i),type:=ty,pos:=pos,after:=after,guard:=none } :: rest) K E s = ((∀ d,dst = some d→d < N)∧cE P Γ (aN Γ E) s (fun r s'=>AY P Γ N ops rest K (bD E dst r) s') (.field t x i)):=gG rfl
theorem uo {dst : Option Tmp} (t : TypeId) (x y : Operand) {ty : TypeId} {pos : String} {after : Array Edge} {rest : List Oper} : AY P Γ N ops ({ dst:=dst,op:=(.indexAddr t x y),type:=ty,pos:=pos,after:=after,guard:=none } :: rest) K E s = ((∀ d,dst = some d→d < N)∧cE P Γ (aN Γ E) s (fun r s'=>AY P Γ N ops rest K (bD E dst r) s') (.indexAddr t x y)):=gG rfl
theorem EN {dst : Option Tmp} (t : TypeId) (x y : Operand) {ty : TypeId} {pos : String} {after : Array Edge} {rest : List Oper} : AY P Γ N ops ({ dst:=dst,op:=(.index t x y),type:=ty,pos:=pos,after:=after,guard:=none } :: rest) K E s = ((∀ d,dst = some d→d < N)∧cE P Γ (aN Γ E) s (fun r s'=>AY P Γ N ops rest K (bD E dst r) s') (.index t x y)):=gG rfl
theorem zc {dst : Option Tmp} (x : Operand) (i : Nat) {ty : TypeId} {pos : String} {after : Array Edge} {rest : List Oper} : AY P Γ N ops ({ dst:=dst,op:=(.extract x i),type:=ty,pos:=pos,after:=after,guard:=none } :: rest) K E s = ((∀ d,dst = some d→d < N)∧cE P Γ (aN Γ E) s (fun r s'=>AY P Γ N ops rest K (bD E dst r) s') (.extract x i)):=gG rfl
theorem zd {dst : Option Tmp} (b : Builtin) (a : Array Operand) (t : Array TypeId) {ty : TypeId} {pos : String} {after : Array Edge} {rest : List Oper} : AY P Γ N ops ({ dst:=dst,op:=(.call { callee:=.builtin b,args:=a,argTypes:=t }),type:=ty,pos:=pos,after:=after,guard:=none } :: rest) K E s = ((∀ d,dst = some d→d < N)∧cE P Γ (aN Γ E) s (fun r s'=>AY P Γ N ops rest K (bD E dst r) s') (.call { callee:=.builtin b,args:=a,argTypes:=t })):=gG rfl
theorem IJ {dst : Option Tmp} {f : Operand} {args : Array Operand} {argTypes : Array TypeId} {ty : TypeId} {pos : String} {after : Array Edge} {rest : List Oper} :
    AY P Γ N ops ({ dst:=dst,op:=.call { callee:=.value f,args:=args,argTypes:=argTypes },type:=ty,pos:=pos,after:=after,guard:=none } :: rest) K E s =
      ((∀ d,dst = some d→d < N)∧y0 P Γ N ops (aN Γ E f) (args.toList.map (aN Γ E)) dst rest K E s):=by
  simp only [ay,AX,cE,dg,dJ,y0,vL];rfl
theorem EO {ρ : Operand→AV} {K : AV→AS→Prop} {op : Op} : cE P Γ ρ s K op = match dg P ρ op with | some r=>K r s | none=>dJ P Γ ρ s K op:=rfl
section
variable {ρ : Operand→AV} {K : AV→AS→Prop}
theorem po {T : TypeId} {x : Operand} : dJ P Γ ρ s K (.load T x) = (match ρ x with
    | .ptr o off=>(match s.aJ o with
      | some cs=>P.cellsOf T≠0∧(match pO P T (cs.drop off) with | some v=>K v s | none=>False)
      | none=>False)
    | _=>False):=rfl
theorem sB {T : TypeId} {a x : Operand} : dJ P Γ ρ s K (.store T a x) = (match ρ a with
    | .ptr o off=>(match s.aJ o with
      | some cs=>P.cellsOf T≠0∧(ρ x).cells.length = P.cellsOf T∧off + (ρ x).cells.length≤cs.length∧(ρ x).cells.all AV.one = true∧K (.v undef) (s.set o (bm cs off (ρ x).cells))
      | none=>False)
    | _=>False):=rfl
theorem sC {T : TypeId} : dJ P Γ ρ s K (.alloc T) = (match bE P T with | some z=>∀ o,s.aJ o = none→K (.ptr o 0) (s.set o z) | none=>False):=rfl
theorem xm {T : TypeId} {x : Operand} : dJ P Γ ρ s K (.box T x) = ∀ o,s.aJ o = none→K (.ptr o 0) (s.set o (ρ x).cells):=rfl
theorem nD {T : TypeId} {l c : Operand} : dJ P Γ ρ s K (.makeSlice T l c) = (match P.underlying T,ρ l,ρ c with
    | some (.slice e),.v (.int _ n),.v (.int _ m) =>
      (match bE P e with
      | some z=>0≤n∧m = n∧P.bytesOf e * n≤2 ^ 46∧n≤2 ^ 46∧P.cellsOf e≠0∧z.length = P.cellsOf e ∧
          ∀ o,s.aJ o = none→K (.dj o 0 (P.cellsOf e) n.toNat n.toNat) (s.set o (ig (n.toNat * P.cellsOf e) z))
      | none=>False)
    | _,_,_=>False):=rfl
theorem qu {x y : Operand} {T xT : TypeId} : dJ P Γ ρ s K (.call { callee:=.builtin .append,args:=#[x,y],argTypes:=#[T,xT] }) = (match P.underlying T with
      | some (.slice e) =>
        (match bE P e,iE (P.cellsOf e) s (ρ y) with
        | some z,some (m,ds)=>nB P (some xT) = true∧P.cellsOf e≠0∧z.length = P.cellsOf e∧gT P e (ρ x) m ds s K
        | _,_=>Ex P e xT (ρ x) (ρ y) s K)
      | _=>False):=rfl
theorem uq {x y : Operand} {T xT : TypeId} : dJ P Γ ρ s K (.call { callee:=.builtin .copy,args:=#[x,y],argTypes:=#[T,xT] }) = (match P.underlying T with
      | some (.slice e) =>
        (match iE (P.cellsOf e) s (ρ y),ρ x with
        | some (m,ds),.dj o off _ n _ =>
          (match s.aJ o with
          | some cs=>P.cellsOf e≠0∧ds.all AV.one = true∧off + min m n * P.cellsOf e≤cs.length ∧
              K (.v (.int .i64 ((min m n : Nat) : Int))) (s.set o (bm cs off (ds.take (min m n * P.cellsOf e))))
          | none=>False)
        | _,_=>False)
      | _=>False):=rfl
theorem qv {e : TypeId} {m : Nat} {ds : List AV} : gT P e (.v (.slice none 0 0)) m ds s K = if m = 0 then K (.v (.slice none 0 0)) s
    else m * P.bytesOf e≤2 ^ 46∧m≤2 ^ 46∧∀ t,s.own t = none→K (.sl (P.cellsOf e) m ds (.own t 0)) (s.cd t 0):=rfl
theorem ur {e : TypeId} {sz n m : Nat} {cs ds : List AV} : gT P e (.sl sz n cs .full) m ds s K = if m = 0 then K (.sl sz n cs .full) s
    else sz = P.cellsOf e∧(n + m) * P.bytesOf e≤2 ^ 46∧n + m≤2 ^ 46∧ds.all AV.one = true∧∀ t,s.own t = none→K (.sl sz (n + m) (cs ++ ds) (.own t 0)) (s.cd t 0):=rfl
theorem xp {e : TypeId} {sz n m : Nat} {cs ds : List AV} : gT P e (.sl sz n cs .new) m ds s K = if m = 0 then K (.sl sz n cs .new) s
    else sz = P.cellsOf e∧(n + m) * P.bytesOf e≤2 ^ 46∧n + m≤2 ^ 46∧ds.all AV.one = true∧∀ t,s.own t = none→K (.sl sz (n + m) (cs ++ ds) (.own t 0)) (s.cd t 0):=rfl
theorem qw {e : TypeId} {sz n m t g : Nat} {cs ds : List AV} : gT P e (.sl sz n cs (.own t g)) m ds s K = if m = 0 then K (.sl sz n cs (.own t g)) s
    else sz = P.cellsOf e∧(n + m) * P.bytesOf e≤2 ^ 46∧n + m≤2 ^ 46∧ds.all AV.one = true∧s.own t = some g∧K (.sl sz (n + m) (cs ++ ds) (.own t (g + 1))) (s.cd t (g + 1)):=rfl
end
theorem EP {dst : Option Tmp} {op : Op} {ty : TypeId} {pos : String} {after : Array Edge} {j : Nat} {want : Bool} {rest : List Oper} :
    AY P Γ N ops ({ dst:=dst,op:=op,type:=ty,pos:=pos,after:=after,guard:=some (j,want) } :: rest) K E s =
      (match rS ops j with
      | none=>(∀ d,dst = some d→d < N)∧False
      | some d=>match E d with
        | .v (.bool t)=>if t = want then AY P Γ N ops ({ dst:=dst,op:=op,type:=ty,pos:=pos,after:=after,guard:=none } :: rest) K E s else ((∀ d,dst = some d→d < N)∧AY P Γ N ops rest K (bD E dst (.v undef)) s)
        | .v (.tuple _)=>(∀ d,dst = some d→d < N)∧AY P Γ N ops rest K (bD E dst (.v undef)) s
        | _=>(∀ d,dst = some d→d < N)∧False):=by
  cases hj : rS ops j with
  | none=>simp only [ay,AX,hj]
  | some d =>
    simp only;split
    · rename_i t hE;exact Hm (o:={ dst:=dst,op:=op,type:=ty,pos:=pos,after:=after,guard:=some (j,want) }) rfl hj hE
    · rename_i c hE;simp only [ay,AX,hj,hE]
    · rename_i dz;simp only [ay,AX,hj]
theorem ze : fg [] = .dZ []:=rfl
theorem zg (a : AV) : fg [a] = a:=rfl
theorem zh (a b : AV) : fg [a,b] = .dZ [a,b]:=rfl
theorem uu (a b c : AV) : fg [a,b,c] = .dZ [a,b,c]:=rfl
theorem xq (a b c d : AV) : fg [a,b,c,d] = .dZ [a,b,c,d]:=rfl
theorem xr (a b c d e : AV) : fg [a,b,c,d,e] = .dZ [a,b,c,d,e]:=rfl
def OC (P : Program) (Γ : Nat→List AV) (N : Nat) (ops : Array Oper) (fl : List Nat) (k : Nat) (L : List Oper) (K : Env→AS→Prop) (E : Env) (s : AS) : Prop:=qp P Γ N ops (ui fl k L) K E s
theorem LB : ∃ f : Program→(Nat→List AV)→Nat→Array Oper→List Nat→Nat→List Oper→(Env→AS→Prop)→Env→AS→Prop,f = OC:=⟨_,rfl⟩
noncomputable def R8 : Program→(Nat→List AV)→Nat→Array Oper→List Nat→Nat→List Oper→(Env→AS→Prop)→Env→AS→Prop:=Classical.choose LB
theorem Z4 : R8 = OC:=Classical.choose_spec LB
theorem cR {fl : List Nat} {k : Nat} : R8 P Γ N ops fl k [] K E s = K E s:=by rw [Z4]; rfl
theorem ct {fl : List Nat} {k : Nat} {o : Oper} {rest : List Oper} : R8 P Γ N ops fl k (o :: rest) K E s =
    if fl.contains k = true then AY P Γ N ops [o] (R8 P Γ N ops fl (k + 1) rest K) E s
    else ((∀ d,o.dst = some d→d < N)∧match cw P Γ ops o E with | some v=>R8 P Γ N ops fl (k + 1) rest K (bD E o.dst v) s | none=>False):=by rw [Z4,ay]; rfl
section
variable {Q : Exit→Env→AS→Prop}
theorem awp_reg_seq {id : Nat} {L : List Oper} {y : Code} (h : ∀ K : Env→AS→Prop,(∀ E s,cI P Γ N y Q E s→K E s)→AY P Γ N L.toArray L K E s) : cI P Γ N (.seq (.region id L.toArray false) y) Q E s :=
  yX fun K hK=>by simpa [ay] using h K hK
theorem awp_reg_end {id : Nat} {L : List Oper} (h : ∀ K : Env→AS→Prop,(∀ E s,Q .normal E s→K E s)→AY P Γ N L.toArray L K E s) : cI P Γ N (.region id L.toArray false) Q E s :=
  yY fun K hK=>by simpa [ay] using h K hK
theorem aZ (hm : P.follows .mixedOrders = true) (fl : List Nat) {id : Nat} {L : List Oper} {y : Code} (kS : tc L.toArray fl = true) (h : ∀ K : Env→AS→Prop,(∀ E s,cI P Γ N y Q E s→K E s)→R8 P Γ N L.toArray fl 0 L K E s) :
    cI P Γ N (.seq (.region id L.toArray true) y) Q E s :=
  Da hm fl kS fun K hK=>by simpa [Z4,OC] using h K hK
theorem fy (hm : P.follows .mixedOrders = true) (fl : List Nat) {id : Nat} {L : List Oper} (kS : tc L.toArray fl = true) (h : ∀ K : Env→AS→Prop,(∀ E s,Q .normal E s→K E s)→R8 P Γ N L.toArray fl 0 L K E s) :
    cI P Γ N (.region id L.toArray true) Q E s :=
  Db hm fl kS fun K hK=>by simpa [Z4,OC] using h K hK
end
end Go.AM
namespace Go.AM
open Go Go.RowKit
def gj (k n : Nat) (st : List UInt8 × Bool) : List UInt8 × Bool:=if st.2 = true then st else (st.1 ++ be k n,false)
def bU (k : Nat) (n : Int) (st : List UInt8 × Bool) : List UInt8 × Bool:=if 0≤n∧n < 2 ^ (8 * k) then gj k n.toNat st else (st.1,true)
def cy (m : List UInt8) (st : List UInt8 × Bool) : List UInt8 × Bool:=if st.2 = true then st else (st.1 ++ m,false)
def fD (k : Nat) (m : List UInt8) (st : List UInt8 × Bool) : List UInt8 × Bool:=cy m (bU k m.length st)
abbrev fu (s0 s : AS) (p : Nat) (st : List UInt8 × Bool) : Prop:=yv s0 s p st.1 st.2
def Ca (x : AV) (l : List UInt8) : Prop:=(x = bL∧l = [])∨∃ sp,x = ak l sp
theorem Ca.nil : Ca bL []:=.inl ⟨rfl,rfl⟩
theorem Ca.mk (l : List UInt8) (sp : Sp) : Ca (ak l sp) l:=.inr ⟨sp,rfl⟩
theorem ah.any {P : Program} {Γ : Nat→List AV} {f : FuncId} {pre post : List AV} {l : List UInt8} {s : AS} {Q : AV→AS→Prop} (h0 : l = []→ah P Γ f (pre ++ bL :: post) s Q) (h1 : ah P Γ f (pre ++ ak l .no :: post) s Q) :
    ah P Γ f (pre ++ ak l .any :: post) s Q:=by
  intro G w vs hs hv;have key : ∀ (pre : List AV) (vs : List Value),al G (pre ++ ak l .any :: post) vs→(l = []∧al G (pre ++ bL :: post) vs)∨al G (pre ++ ak l .no :: post) vs:=by
    intro pre;induction pre with
    | nil =>
      intro vs h;simp only [List.nil_append,al] at h ⊢;obtain ⟨u,us,rfl,h1,h2⟩:=h;rcases ar.any h1 with ⟨h3,_,h4⟩ | h3
      · exact .inl ⟨List.eq_nil_of_length_eq_zero h3,u,us,rfl,h4,h2⟩
      · exact .inr ⟨u,us,rfl,h3,h2⟩
    | cons x pre ih =>
      intro vs h;simp only [List.cons_append,al] at h ⊢;obtain ⟨u,us,rfl,h1,h2⟩:=h;rcases ih us h2 with ⟨h3,h4⟩ | h3
      · exact .inl ⟨h3,u,us,rfl,h1,h4⟩
      · exact .inr ⟨u,us,rfl,h1,h3⟩
  rcases key pre vs hv with ⟨h3,h4⟩ | h3
  · exact h0 h3 G w vs hs h4
  · exact h1 G w vs hs h3
theorem Hn (k n : Nat) (st : List UInt8 × Bool) : (gj k n st).1.length≤st.1.length + k:=by
  unfold gj; split <;> simp
theorem gU (k : Nat) (n : Int) (st : List UInt8 × Bool) : (bU k n st).1.length≤st.1.length + k:=by
  unfold bU; split
  · exact Hn ..
  · simp
theorem cj (m : List UInt8) (st : List UInt8 × Bool) : (cy m st).1.length≤st.1.length + m.length:=by
  unfold cy; split <;> simp
theorem yv.OD {s0 s : AS} {p : Nat} {bad : Bool} (h : yv s0 s p [] bad) {t : Nat} (ht : s.own t = none) (m : List UInt8) : yv s0 ((s.cd t 0).set p [.sl 1 m.length (m.map aw) (.own t 0),.v (.bool false)]) p m false :=
  h.Dc (m:=m) false (h.EG ht)
theorem yv.bad {s0 s : AS} {p : Nat} {l : List UInt8} {bad : Bool} (h : yv s0 s p l bad) {x : AV} (hx : s.aJ p = some [x,.v (.bool bad)]) (hb : Buf s0 s x l) (b : Bool) : yv s0 (s.set p [x,.v (.bool b)]) p l b :=
  ⟨AS.bg h.le h.new _,h.new,x,AS.aj _ _ _,hb⟩
theorem Cb (n : Int) (k : Nat) (hk : 8 * k≤64) (h0 : 0≤n) : (lW .i64 n (8 * (k : Int)) != 0) = decide (2 ^ (8 * k)≤n):=by
  obtain ⟨m,rfl⟩:=Int.eq_ofNat_of_zero_le h0;rw [show (8 * (k : Int)) = ((8 * k : Nat) : Int) from by omega,vJ];have : min (8 * k) IntKind.i64.bits = 8 * k:=(by simp [IntKind.bits]; omega);rw [this];have e : ((2 : Int) ^ (8 * k)) = ((2 ^ (8 * k) : Nat) : Int):=(by push_cast; rfl);rw [e];have zi : 0 < 2 ^ (8 * k):=Nat.pow_pos (by decide);by_cases h : m < 2 ^ (8 * k)
  · rw [Nat.div_eq_of_lt h];simp;omega
  · have : m / 2 ^ (8 * k)≠0:=by
      rw [Ne,Nat.div_eq_zero_iff];omega
    have h1 : ((((m / 2 ^ (8 * k) : Nat) : Int) != 0) = true):=by
      rw [bne_iff_ne]; omega
    rw [h1];symm;rw [decide_eq_true_eq];omega
theorem ko (n : Nat) (h : n < 2 ^ 64) : ee .u64 (n : Int) = n:=by
  rw [lC rfl];simp [IntKind.bits,Nat.mod_eq_of_lt h]
end Go.AM
namespace Go.AM
open Go Go.RowKit
theorem IK {a : Int} (h : (Lit.int .u64 a).wf = true) : ∃ n : Nat,a = n∧n < 2 ^ 64:=by
  have:=bounds_u64 h;exact ⟨a.toNat,by omega,by omega⟩
theorem R9 {a : Int} (h : (Lit.int .u8 a).wf = true) : ∃ n : Nat,a = n∧n < 2 ^ 8:=by
  have:=bounds_u8 h;exact ⟨a.toNat,by omega,by omega⟩
end Go.AM
