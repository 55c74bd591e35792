/- An abstract machine for the model and the rules of its walk, each proved sound over the model; no condition. -/
import Derived.Test.YtbiefppedlodiaaGreatDoorAMp2
import Derived.OpenShut
set_option linter.unusedSimpArgs false
set_option linter.unusedVariables false
namespace Go.AM
open Go Go.RowKit
variable {rd : Option Nat} {P : Program} {Γ : Nat→List AV} {G : Gh} {s : AS} {w : World}
def Pk (ops : Array Oper) (D : List Nat) (o : Oper) : Nat :=
  o.after.toList.foldl (fun m e=>if Region.binds .any e then m ||| 2 ^ e.on ||| D.getD e.on 0 else m) 0
def vL (ops : Array Oper) (D : List Nat) : Bool :=
  (List.range ops.size).all fun i =>
    match ops[i]? with
    | some o=>D.getD i 0 == Pk ops D o && o.after.toList.all fun e=>!Region.binds .any e || decide (e.on < i)
    | none=>true
def Iw (ops : Array Oper) (D : List Nat) (fl : List Nat) : Bool :=
  (List.range ops.size).all fun j=>(List.range j).all fun i =>
    match ops[i]?,ops[j]? with
    | some x,some y=>(D.getD j 0).testBit i || (x.apart ops y && !(fl.contains i && fl.contains j))
    | _,_=>true
def rJ (ops : Array Oper) (fl : List Nat) : Bool :=
  vL ops (Region.before ops).toList && Iw ops (Region.before ops).toList fl
theorem sT (D : List Nat) (l : Nat) : ∀ (es : List Edge) (m : Nat),(es.foldl (fun m e=>if Region.binds .any e then m ||| 2 ^ e.on ||| D.getD e.on 0 else m) m).testBit l = true →
    m.testBit l = true∨∃ e ∈ es,Region.binds .any e = true∧(l = e.on∨(D.getD e.on 0).testBit l = true)
  | [],m,h=>.inl h
  | e :: es,m,h=>by
    simp only [List.foldl_cons] at h;rcases sT D l es _ h with h1 | ⟨e',h1,h2⟩
    · split at h1
      · rename_i hb;rw [Nat.testBit_or,Nat.testBit_or] at h1;simp only [Bool.or_eq_true] at h1;rcases h1 with (h1 | h1) | h1
        · exact .inl h1
        · rw [Nat.testBit_two_pow] at h1;exact .inr ⟨e,by simp,hb,.inl (of_decide_eq_true h1).symm⟩
        · exact .inr ⟨e,by simp,hb,.inr h1⟩
      · exact .inl h1
    · exact .inr ⟨e',by simp [h1],h2⟩
theorem fG {ops : Array Oper} {D : List Nat} (h : vL ops D = true) {i : Nat} {o : Oper} (ho : ops[i]? = some o) :
    (∀ l,(D.getD i 0).testBit l = true→∃ e ∈ o.after.toList,Region.binds .any e = true∧(l = e.on∨(D.getD e.on 0).testBit l = true))∧∀ e ∈ o.after.toList,Region.binds .any e = true→e.on < i:=by
  unfold vL at h;rw [List.all_eq_true] at h;have hi : i < ops.size:=by
    rcases Nat.lt_or_ge i ops.size with h' | h'
    · exact h'
    · simp [Array.getElem?_eq_none h'] at ho
  have:=h i (by simpa using hi);simp only [ho,Bool.and_eq_true,beq_iff_eq,List.all_eq_true] at this;refine ⟨fun l hl=>?_,fun e he hb=>?_⟩
  · rw [this.1] at hl;rcases sT D l _ _ hl with h1 | h1
    · simp at h1
    · exact h1
  · have:=this.2 e he;simpa [hb] using this
section
variable {N : Nat} {ops : Array Oper}
def left (ops : Array Oper) (listed : Array Bool) : List Nat:=(List.range ops.size).filter fun i=>!listed.getD i true
theorem mem_left {listed : Array Bool} {i : Nat} : i ∈ left ops listed↔i < ops.size∧listed.getD i true = false:=by
  simp [left]
def rK (ops : Array Oper) (fl : List Nat) (i : Nat) : Oper × Bool:=((ops[i]?).getD default,fl.contains i)
theorem sU {listed : Array Bool} {i : Nat} (hl : listed.size = ops.size) (hi : i < ops.size) (h0 : listed.getD i true = false) :
    ∃ L1 L2,left ops listed = L1 ++ i :: L2∧left ops (listed.setIfInBounds i true) = L1 ++ L2∧(∀ x ∈ L1,x < i∧listed.getD x true = false):=by
  have key : ∀ (n k : Nat),k≤i→i < k + n →
      ∃ L1 L2,(List.range' k n).filter (fun i=>!listed.getD i true) = L1 ++ i :: L2∧(List.range' k n).filter (fun j=>!(listed.setIfInBounds i true).getD j true) = L1 ++ L2∧(∀ x ∈ L1,x < i∧listed.getD x true = false):=by
    intro n;induction n with
    | zero=>intro k h1 h2; omega
    | succ n ih =>
      intro k h1 h2;rw [List.range'_succ];by_cases hk : k = i
      · subst hk;refine ⟨[],(List.range' (k + 1) n).filter (fun i=>!listed.getD i true),?_,?_,by simp⟩
        · rw [List.filter_cons_of_pos (by simpa using h0)]; rfl
        · rw [List.filter_cons_of_neg (by simp [hl,hi])];simp only [List.nil_append];apply List.filter_congr;intro x hx;rw [getD_set_ne true (by simp at hx; omega)]
      · obtain ⟨L1,L2,q1,q2,q3⟩:=ih (k + 1) (by omega) (by omega);have dp : (listed.setIfInBounds i true).getD k true = listed.getD k true:=getD_set_ne true (by omega);by_cases hb : listed.getD k true = false
        · refine ⟨k :: L1,L2,?_,?_,?_⟩
          · rw [List.filter_cons_of_pos (by simpa using hb),q1]; rfl
          · rw [List.filter_cons_of_pos (by rw [dp]; simpa using hb),q2]; rfl
          · intro x hx;rcases List.mem_cons.1 hx with rfl | hx
            · exact ⟨by omega,hb⟩
            · exact q3 x hx
        · refine ⟨L1,L2,?_,?_,q3⟩
          · rw [List.filter_cons_of_neg (by simpa using hb),q1]
          · rw [List.filter_cons_of_neg (by rw [dp]; simpa using hb),q2]
  have:=key ops.size 0 (by omega) (by omega);simpa [left,List.range_eq_range'] using this
theorem CE {fl : List Nat} {Q : Exit→Act→World→Prop} {K : Env→AS→Prop} (ie : rJ ops fl = true) :
    ∀ (fuel : Nat) (listed : Array Bool) {G : Gh} {E : Env} {s : AS} {a : Act} {w : World},listed.size = ops.size→(left ops listed).length≤fuel →
      (∀ (i : Nat) (o : Oper),ops[i]? = some o→listed.getD i true = true→∀ e ∈ o.after.toList,Region.binds .any e = true→listed.getD e.on false = true) →
      pr P Γ N ops ((left ops listed).map (rK ops fl)) K E s→Rel Γ N G E s a w →
      (∀ G' E' s' a' w',G.le G'→Rel Γ N G' E' s' a' w'→K E' s'→Q .normal a' w')→wpAnyIn (sO rd) 0 P .any ops Q fuel listed a w:=by
  simp only [rJ,Bool.and_eq_true] at ie
  obtain ⟨uz,ly⟩:=ie
  intro fuel
  have qL : ∀ (listed : Array Bool),Region.ready .any ops listed = []→left ops listed = []:=by
    intro listed h
    -- the first that is left could go
    cases hl : left ops listed with
    | nil=>rfl
    | cons i L =>
      exfalso
      have hi : i ∈ left ops listed:=by rw [hl]; simp
      obtain ⟨h1,h2⟩:=mem_left.1 hi
      have xY : ∀ j,j < i→listed.getD j true = true:=by
        intro j hj
        cases Eo : listed.getD j true with
        | true=>rfl
        | false =>
          exfalso
          have CF : j ∈ left ops listed:=mem_left.2 ⟨by omega,Eo⟩
          have hs : (left ops listed).Pairwise (· < ·):=by
            unfold left
            exact List.Pairwise.filter _ List.pairwise_lt_range
          rw [hl] at hs CF
          rcases List.mem_cons.1 CF with rfl | CF
          · omega
          · have:=(List.pairwise_cons.1 hs).1 j CF
            omega
      have ho : ops[i]? = some ops[i]:=by simp [h1]
      have hr : i ∈ Region.ready .any ops listed:=by
        rw [mem_ready]
        refine ⟨h2,_,ho,fun e he hb=>?_⟩
        have bS:=(fG uz ho).2 e (by simpa using he) hb
        have:=xY _ bS
        -- both defaults agree where the place is there
        have eI : e.on < listed.size:=by
          rcases Nat.lt_or_ge e.on listed.size with h' | h'
          · exact h'
          · exfalso
            have : listed.getD i true = true:=by
              simp [Array.getElem?_eq_none (show listed.size≤i by omega)]
            rw [h2] at this; cases this
        simpa [eI] using this
      rw [h] at hr
      cases hr
  induction fuel with
  | zero =>
    intro listed G E s a w eI hlen gy h hr hq
    have hl : left ops listed = []:=List.eq_nil_of_length_eq_zero (by omega)
    have gl : Region.ready .any ops listed = []:=by
      cases Pl : Region.ready .any ops listed with
      | nil=>rfl
      | cons i L =>
        exfalso
        have : i ∈ Region.ready .any ops listed:=by rw [Pl]; simp
        rw [mem_ready] at this
        obtain ⟨h0,o,ho,_⟩:=this
        have : i ∈ left ops listed:=mem_left.2 ⟨(Array.getElem?_eq_some_iff.1 ho).1,h0⟩
        rw [hl] at this
        cases this
    rw [hl] at h
    exact ⟨gl,hq G E s a w (.refl G) hr h⟩
  | succ fuel ih =>
    intro listed G E s a w eI hlen gy h hr hq
    refine ⟨fun gl=>?_,fun i hi=>?_⟩
    · rw [qL listed gl] at h
      exact hq G E s a w (.refl G) hr h
    · obtain ⟨h0,o,ho,cu⟩:=mem_ready.1 hi
      have uA : i < ops.size:=(Array.getElem?_eq_some_iff.1 ho).1
      obtain ⟨L1,L2,q1,q2,q3⟩:=sU eI uA h0
      -- what comes before i is done
      have nN : ∀ (j : Nat) (oj : Oper),ops[j]? = some oj→(∀ e ∈ oj.after.toList,Region.binds .any e = true→listed.getD e.on false = true)→∀ l,((Region.before ops).toList.getD j 0).testBit l = true→listed.getD l false = true:=by
        intro j
        induction j using Nat.strongRecOn with
        | _ j S1 =>
          intro oj uB hj l hl
          obtain ⟨d1,d2⟩:=fG uz uB
          obtain ⟨e,he,hb,h1⟩:=d1 l hl
          have wQ:=hj e he hb
          rcases h1 with rfl | h1
          · exact wQ
          · have bS:=d2 e he hb
            have S4 : e.on < ops.size:=by
              have:=(Array.getElem?_eq_some_iff.1 uB).1
              omega
            have xZ : ops[e.on]? = some ops[e.on]:=by simp [S4]
            refine S1 e.on bS _ xZ (gy e.on _ xZ ?_) l h1
            have : e.on < listed.size:=by omega
            simpa [this] using wQ
      have qT : ∀ x ∈ L1,dL ops ((ops[x]?).getD default) o∧¬ (fl.contains x = true∧fl.contains i = true):=by
        intro x hx
        obtain ⟨VZ,JT⟩:=q3 x hx
        unfold Iw at ly
        rw [List.all_eq_true] at ly
        have h1:=ly i (by simpa using uA)
        rw [List.all_eq_true] at h1
        have h2:=h1 x (by simpa using VZ)
        have Rn : ops[x]? = some (ops[x]'(by omega)):=by simp
        rw [Rn,ho] at h2
        simp only [Bool.or_eq_true,Bool.and_eq_true,Bool.not_eq_true'] at h2
        rcases h2 with h2 | ⟨h2,h3⟩
        · exfalso
          have:=nN i o ho (fun e he hb=>cu e (by simpa using he) hb) x h2
          have S5 : x < listed.size:=by omega
          simp [S5] at this JT
          rw [JT] at this; cases this
        · refine ⟨by rw [Rn]; exact h2,fun hc=>?_⟩
          rw [hc.1,hc.2] at h3
          cases h3
      have cg : ∀ {G' : Gh} {E' : Env} {s' : AS} {a' : Act} {w' : World},G.le G'→pr P Γ N ops ((L1 ++ L2).map (rK ops fl)) K E' s'→Rel Γ N G' E' s' a' w'→wpAnyIn (sO rd) 0 P .any ops Q fuel (listed.setIfInBounds i true) a' w':=by
        intro G' E' s' a' w' hle hA uy
        refine ih (listed.setIfInBounds i true) (by simpa using eI) ?_ ?_ ?_ uy (fun sA gB fD xV ux k1 k2 k3=>hq sA gB fD xV ux (hle.trans k1) k2 k3)
        · rw [q2]
          rw [q1] at hlen
          simp at hlen ⊢
          omega
        · intro j oj uB hj e he hb
          by_cases Ev : j = i
          · subst Ev
            rw [ho] at uB; cases uB
            exact getD_set_true (cu e (by simpa using he) hb)
          · rw [getD_set_ne true (Ne.symm Ev)] at hj
            exact getD_set_true (gy j oj uB hj e he hb)
        · rw [q2]; exact hA
      rw [q1] at h
      simp only [List.map_append,List.map_cons] at h cg
      have gk : rK ops fl i = (o,fl.contains i):=by simp [rK,ho]
      rw [gk] at h
      cases hf : fl.contains i with
      | false =>
        rw [hf] at h
        have iS : ∀ x ∈ L1.map (rK ops fl),dL ops x.1 o:=by
          intro x hx
          obtain ⟨j,hj,rfl⟩:=List.mem_map.1 hx
          exact (qT j hj).1
        obtain ⟨hd,v,hv⟩:=xX _ iS h hr
        have h1:=lu _ iS hv h
        have hX : pr P Γ N ops ((o,false) :: (L1.map (rK ops fl) ++ L2.map (rK ops fl))) K E s:=by
          simp only [pr,Bool.false_eq_true,if_false,hv]
          exact ⟨hd,h1⟩
        have h2:=GQ hX
        exact fW (L:=[]) (K:=fun E s=>pr P Γ N ops (L1.map (rK ops fl) ++ L2.map (rK ops fl)) K E s) ho h2 hr (fun G' E' s' a' w' k1 k2 k3=>cg k1 k3 k2)
      | true =>
        rw [hf] at h
        have iS : ∀ x ∈ L1.map (rK ops fl),dL ops x.1 o∧x.2 = false:=by
          intro x hx
          obtain ⟨j,hj,rfl⟩:=List.mem_map.1 hx
          refine ⟨(qT j hj).1,?_⟩
          cases hc : fl.contains j with
          | false=>exact hc
          | true=>exact absurd ⟨hc,hf⟩ (qT j hj).2
        have h2:=qS _ iS h
        exact fW (L:=[]) (K:=fun E s=>pr P Γ N ops (L1.map (rK ops fl) ++ L2.map (rK ops fl)) K E s) ho h2 hr (fun G' E' s' a' w' k1 k2 k3=>cg k1 k3 k2)
def marked (ops : Array Oper) (fl : List Nat) : List (Oper × Bool):=(List.range ops.size).map (rK ops fl)
theorem uC : ∀ (L : List (Oper × Bool)) {K : Env→AS→Prop} {E : Env} {s : AS},pr P Γ N ops L K E s→pr P Γ N ops L (fun E' s'=>K E' s'∧∀ i,i ∉ bU (L.map (·.1))→E' i = E i) E s
  | [],K,E,s,h=>⟨h,fun _ _=>rfl⟩
  | (o,sB) :: L,K,E,s,h=>by
    have px : ∀ i,i ∉ bU (((o,sB) :: L).map (·.1))→i ∉ bU (L.map (·.1))∧o.dst≠some i:=by
      intro i hi;simp only [bU,List.map_cons,List.filterMap_cons] at hi;refine ⟨fun hm=>hi ?_,fun e=>hi (by simp [e])⟩;simp only [bU] at hm;split
      · exact hm
      · exact List.mem_cons_of_mem _ hm
    simp only [pr] at h ⊢;split at h
    · rename_i he;rw [if_pos he];refine cf _ (fun E' s' hE=>?_) (cl h);refine sS L (fun gB fD x5=>⟨x5.1,fun i hi=>?_⟩) (uC L hE.1);obtain ⟨m1,m2⟩:=px i hi;rw [x5.2 i m1,hE.2 i m2]
    · rename_i he;rw [if_neg he];refine ⟨h.1,?_⟩;have h:=h.2;split at h
      · refine sS L (fun gB fD x5=>⟨x5.1,fun i hi=>?_⟩) (uC L h);obtain ⟨m1,m2⟩:=px i hi;rw [x5.2 i m1,bW m2]
      · exact h
theorem oG {E : Env} {Q : Exit→Env→AS→Prop} (hm : P.follows .mixedOrders = true) (fl : List Nat) {id : Nat} (ie : rJ ops fl = true) (h : pr P Γ N ops (marked ops fl) (fun E' s'=>Q .normal E' s') E s) :
    ck P Γ N (.region id ops true) Q E s:=by
  intro G a w hr;refine wpIn_region_any hm ?_;have vM : left ops (Array.replicate ops.size false) = List.range ops.size:=by
    unfold left;rw [List.filter_eq_self];intro i hi;have : i < ops.size:=(by simpa using hi);simp [this]
  have uy : Rel Γ N G E s a w.drew:=⟨hr.st.drew,hr.size,hr.tmps,hr.defers⟩;refine CE ie ops.size (Array.replicate ops.size false) (by simp) (by rw [vM]; simp) ?_ (by rw [vM]; exact uC _ h) uy ?_
  · intro i o ho hl;have : i < ops.size:=(Array.getElem?_eq_some_iff.1 ho).1;simp [this] at hl
  · intro G' E' s' a' w' h1 h2 h3;refine ⟨G',E',s',h1,h2,h3.1,fun i hi=>h3.2 i fun hm=>hi ?_⟩;have : (marked ops fl).map (·.1) = ops.toList:=by
      apply List.ext_getElem?;intro j;simp only [marked,List.getElem?_map];by_cases hj : j < ops.size
      · simp [hj,rK]
      · simp [hj]
    have OK : i ∈ bU ((marked ops fl).map (·.1)):=hm;rw [this] at OK;exact OK
end
end Go.AM
namespace Go.AM
open Go Go.RowKit
variable {rd : Option Nat} {P : Program} {Γ : Nat→List AV} {G : Gh} {s : AS} {w : World}
def br (args : List AV) : Env:=fun i=>args.getD i (.v undef)
def dy (P : Program) (E : Env) (s : AS) : ResultVar→Option AV
  | .tmp t=>some (E t)
  | .cell a T =>
    match E a with
    | .ptr o off =>
      match s.aq o with
      | some cs=>if P.cellsOf T = 0 then none else oE P T (cs.drop off)
      | none=>none
    | _=>none
def bD (P : Program) (E : Env) (s : AS) : List ResultVar→Option (List AV)
  | []=>some []
  | r :: rs=>match dy P E s r,bD P E s rs with | some v,some vs=>some (v :: vs) | _,_=>none
def eD : List AV→AV
  | [r]=>r
  | rs=>.eJ rs
def bz (P : Program) (rs : List ResultVar) (b7 : AV→AS→Prop) (E : Env) (s : AS) : Prop :=
  match bD P E s rs with
  | some vs=>∃ r s',(eD vs).aA r∧s'.le s∧b7 r s'
  | none=>False
def cn (P : Program) (rs : List ResultVar) (b7 : AV→AS→Prop) : Exit→Env→AS→Prop
  | .normal,E,s=>bz P rs b7 E s
  | .ret,E,s=>bz P rs b7 E s
  | _,_,_=>False
def Ly (tmps : Array Value) : ResultVar→Sem Value
  | .tmp t=>pure (tmps.getD t undef)
  | .cell b t=>do loadVar t (← asAddr (tmps.getD b undef))
theorem lz (fn : Func) (tmps : Array Value) : results fn tmps = (do let vs ← fn.results.mapM (Ly tmps); pure (if h : vs.size = 1 then vs[0] else .tuple vs)):=by
  unfold results;have : (fun x : ResultVar=>(match x with | .tmp t=>pure (tmps.getD t undef) | .cell a t=>(do loadVar t (← asAddr (tmps.getD a undef)) : Sem Value) : Sem Value)) = Ly tmps:=by
    funext x; cases x <;> rfl
  rw [← this];rfl
theorem LA {N : Nat} {E : Env} {a : Act} (hr : Rel Γ N G E s a w) {rv : ResultVar} {v : AV} (h : dy P E s rv = some v) :
    ∃ z,(Ly a.tmps rv).run P w = .ok z w∧au G v z:=by
  cases rv with
  | tmp t=>simp only [dy] at h; cases h; exact ⟨_,rfl,hr.tmps t⟩
  | cell b T =>
    simp only [dy] at h;have hb:=hr.tmps b;split at h
    · rename_i o off hE;rw [hE] at hb;split at h
      · rename_i cs Gp;split at h
        · cases h
        · rename_i hz;simp only [au] at hb;obtain ⟨nB,xct,hu⟩:=hb;obtain ⟨b',vs,h1,h2,h3,h4⟩:=hr.st.aq o cs Gp;rw [xct] at h1; cases h1;obtain ⟨z,q1,q2⟩:=nE (w:=w) h hz (h2.drop off) (b:=nB) (off:=off) (fun j u hj=>by
            rw [cH];rw [List.getElem?_drop] at hj;exact (h4 _ _ hj).1)
          refine ⟨z,?_,q2⟩;simp only [Ly];rw [hu];simp [asAddr,q1]
      · cases h
    · cases h
theorem qn {N : Nat} {E : Env} {a : Act} (hr : Rel Γ N G E s a w) : ∀ {rs : List ResultVar} {vs : List AV},bD P E s rs = some vs →
    ∃ zs : List Value,(rs.mapM (Ly a.tmps)).run P w = .ok zs w∧ar G vs zs
  | [],vs,h=>by simp only [bD] at h; cases h; exact ⟨[],by simp,by simp [ar]⟩
  | r :: rs,vs,h=>by
    simp only [bD] at h;split at h
    · rename_i v OI h1 h2;cases h;obtain ⟨z,q1,q2⟩:=LA hr h1;obtain ⟨zs,q3,q4⟩:=qn hr h2;refine ⟨z :: zs,?_,by simp only [ar]; exact ⟨z,zs,rfl,q2,q4⟩⟩;simp only [List.mapM_cons,Sem.run_bind,q1,Result.andThen_ok,q3,Sem.run_pure]
    · cases h
theorem rL {vs : List AV} {zs : List Value} (h : ar G vs zs) : au G (eD vs) (if h : zs.toArray.size = 1 then zs.toArray[0] else .tuple zs.toArray):=by
  have hl:=h.length;match vs,zs,h with
  | [],[],h=>simp only [eD,au]; exact ⟨[],rfl,h⟩
  | [v],[z],h =>
    simp only [ar] at h;obtain ⟨u,us,h1,h2,_⟩:=h;cases h1;simpa [eD] using h2
  | v :: v' :: vs,z :: z' :: zs,h =>
    simp only [eD,au];exact ⟨z :: z' :: zs,by simp,h⟩
  | [],z :: zs,h=>simp at hl
  | v :: vs,[],h=>simp at hl
  | [v],z :: z' :: zs,h=>simp at hl
  | v :: v' :: vs,[z],h=>simp at hl
theorem JU {f : FuncId} {fn : Func} {c : Code} {args : List AV} {b7 : AV→AS→Prop} {s : AS} (hf : P.funcs[f]? = some fn) (hb : fn.body = some c) (hn : args.length≤fn.ntmps)
    (h : ck P Γ fn.ntmps c (cn P fn.results.toList b7) (br args) s) : ah P Γ f args s b7:=by
  intro G w vs hs hv;have Rk:=hv.length;refine calls_of_wp hf hb ?_;have x6 : Rel Γ fn.ntmps (G.cP []) (br args) s { tmps:=vs.toArray ++ Array.replicate (fn.ntmps - vs.toArray.size) undef,defers:=[] } w:=by
    refine ⟨hs.cP,by simp; omega,fun i=>?_,rfl⟩;simp only [br];by_cases hi : i < args.length
    · obtain ⟨u,h1,h2⟩:=hv.getD i hi;have bc : i < vs.length:=(by omega);rw [Array.getD_eq_getD_getElem?,Array.getElem?_append_left (by simpa using bc)];simp only [List.getElem?_toArray,h1,Option.getD_some];exact au.cP _ _ h2
    · have e1 : args.getD i (.v undef) = .v undef:=(by simp [List.getD,List.getElem?_eq_none (Nat.le_of_not_lt hi)]);rw [e1,Array.getD_eq_getD_getElem?,Array.getElem?_append_right (by simp; omega)];simp only [au];cases hh : (Array.replicate (fn.ntmps - vs.toArray.size) undef)[i - vs.toArray.size]? with
      | none=>rfl
      | some u =>
        rw [Array.getElem?_replicate] at hh;split at hh
        · cases hh; rfl
        · cases hh
  refine wpIn_wide.1 (wpIn_mono (F:=sO none) (n:=0) (h _ _ w x6) ?_);rintro e a' w' ⟨G',E',s',h1,h2,h3,h4⟩;have fin : bz P fn.results.toList b7 E' s'→bodyPost P fn (fun e w'=>∃ G' r v s',e = .returned v∧G.le G'∧aN Γ G' s' w'∧au G' r v∧b7 r s') .normal a' w':=by
    intro hF;unfold bz at hF;split at hF
    · rename_i OI Gn;obtain ⟨r,s2,q1,q2,q3⟩:=hF;obtain ⟨zs,r1,r2⟩:=qn h2 Gn;refine ⟨h2.defers.trans h1.df,if h : zs.toArray.size = 1 then zs.toArray[0] else .tuple zs.toArray,?_,G'.cP G.df,r,_,s2,rfl,Gh.xH h1,(h2.st.mono q2).cP,au.cP _ _ (q1 _ _ (rL r2)),q3⟩;rw [lz,Array.mapM_eq_mapM_toList];simp only [Sem.run_bind,Sem.run_map,r1,Result.andThen_ok,Sem.run_pure]
    · exact hF.elim
  cases e <;> simp only [cn] at h3;case normal=>exact fin h3
  case ret=>exact fin h3
def fm (Γ : Nat→List AV) (N : Nat) (E : Env) (s : AS) (E' : Env) (s' : AS) : Prop :=
  ∀ (G : Gh) (a : Act) (w : World),Rel Γ N G E s a w→∃ G',G.le G'∧Rel Γ N G' E' s' a w
theorem fm.freeze {N : Nat} {E : Env} {s : AS} {d o off sz n cap : Nat} {cs : List AV} (hE : E d = .gw o off sz n cap) (ho : s.aq o = some cs) (hle : off + n * sz≤cs.length) :
    fm Γ N E s (aF E d (.sl sz n ((cs.drop off).take (n * sz)) .no)) (s.drop o):=by
  intro G a w hr;obtain ⟨b,vs,h1,h2,h3,h4,h5⟩:=hr.st.freeze ho;refine ⟨_,h3,h5,hr.size,fun i=>?_,hr.defers.trans h3.df.symm⟩;simp only [aF];split
  · rename_i e;subst e;have:=hr.tmps i;rw [hE] at this;simp only [au] at this;obtain ⟨b',k1,k2,k3⟩:=this;rw [h1] at k1; cases k1;have hl:=h2.length;rw [k2];simp only [au];refine .inl ⟨b,off,cap,(vs.drop off).take (n * sz),rfl,by simp; omega,k3,ar.mono h3 _ _ ((h2.drop _).take _),?_,trivial⟩;have:=(h4.drop off).take (n * sz);simpa using this
  · exact au.mono h3 _ _ (hr.tmps i)
theorem mY {N : Nat} {E : Env} {Q : Exit→Env→AS→Prop} {id : Nat} {ops : Array Oper}
    (h : AX P Γ N ops ops.toList (fun E' s'=>∃ gB fD,fm Γ N E' s' gB fD∧(∀ i,i ∉ bU ops.toList→gB i = E' i)∧Q .normal gB fD) E s) : ck P Γ N (.region id ops false) Q E s:=by
  intro G a w hr;refine wpIn_region (lr ops.toList _ ?_ (dK _ h) hr ?_)
  · apply List.ext_getElem?;intro i;simp only [List.getElem?_map];by_cases hi : i < ops.size
    · simp [hi]
    · simp [hi]
  · intro G' E' s' a' w' h1 h2 h3;obtain ⟨⟨gB,fD,k1,k2,k3⟩,k4⟩:=h3;obtain ⟨sA,q1,q2⟩:=k1 G' a' w' h2;exact ⟨sA,gB,fD,h1.trans q1,q2,k3,fun i hi=>by rw [k2 i hi,k4 i hi]⟩
theorem AV.dd {a b c d : AV} (h : a.aA c) (k : b.aA d) : (AV.eJ [a,b]).aA (.eJ [c,d]):=by
  intro G v hv;simp only [au,ar] at hv ⊢;obtain ⟨vs,rfl,u,us,rfl,h1,u',wL,rfl,h2,rfl⟩:=hv;exact ⟨_,rfl,u,_,rfl,h G u h1,u',_,rfl,k G u' h2,rfl⟩
theorem AV.uD {a b c d e f : AV} (h : a.aA d) (k : b.aA e) (l : c.aA f) : (AV.eJ [a,b,c]).aA (.eJ [d,e,f]):=by
  intro G v hv;simp only [au,ar] at hv ⊢;obtain ⟨vs,rfl,u,us,rfl,h1,u',wL,rfl,h2,u'',xhW,rfl,h3,rfl⟩:=hv;exact ⟨_,rfl,u,_,rfl,h G u h1,u',_,rfl,k G u' h2,u'',_,rfl,l G u'' h3,rfl⟩
end Go.AM
namespace Go.AM
open Go Go.RowKit
variable {P : Program} {Γ : Nat→List AV} {s : AS}
theorem ab {f : FuncId} {fn : Func} {c : Code} {rs : Array ResultVar} {N : Nat} {args : List AV} {b7 : AV→AS→Prop} {s : AS} (hf : P.funcs[f]? = some fn) (hb : fn.body = some c) (hN : fn.ntmps = N) (OL : fn.results = rs) (hn : args.length≤N)
    (h : ck P Γ N c (cn P rs.toList b7) (br args) s) : ah P Γ f args s b7:=by
  subst hN OL;exact JU hf hb hn h
theorem AS.hM (s : AS) (o : Nat) (cs : List AV) : (s.set o cs).aq = aF s.aq o (some cs):=rfl
theorem AS.Bs (s : AS) (t e : Nat) : (s.bo t e).aq = s.aq:=rfl
theorem AS.qo (s : AS) (o : Nat) : (s.drop o).aq = aF s.aq o none:=rfl
theorem AS.Ix (s : AS) (o : Nat) (cs : List AV) : (s.set o cs).own = s.own:=rfl
theorem AS.vN (s : AS) (t e : Nat) : (s.bo t e).own = aF s.own t (some e):=rfl
theorem AS.Ew (s : AS) (o : Nat) : (s.drop o).own = s.own:=rfl
theorem AS.set_set (s : AS) (o : Nat) (a b : List AV) : (s.set o a).set o b = s.set o b:=by
  simp only [AS.set,AS.mk.injEq,and_true];funext i;simp only [aF];split <;> rfl
def sV (fl : List Nat) : Nat→List Oper→List (Oper × Bool)
  | _,[]=>[]
  | k,o :: L=>(o,fl.contains k) :: sV fl (k + 1) L
theorem Bt (fl : List Nat) : ∀ (L : List Oper) (k i : Nat),(sV fl k L)[i]? = (L[i]?).map fun o=>(o,fl.contains (k + i))
  | [],k,i=>by simp [sV]
  | o :: L,k,0=>by simp [sV]
  | o :: L,k,i + 1=>by
    simp only [sV,List.getElem?_cons_succ];rw [Bt fl L (k + 1) i,show k + 1 + i = k + (i + 1) from by omega]
theorem Bu (ops : Array Oper) (fl : List Nat) : marked ops fl = sV fl 0 ops.toList:=by
  apply List.ext_getElem?;intro i;rw [Bt];simp only [marked,List.getElem?_map,Nat.zero_add];by_cases hi : i < ops.size
  · simp [hi,rK]
  · simp [hi]
section
variable {N : Nat} {E : Env} {Q : Exit→Env→AS→Prop}
theorem awp_seq_k {x y : Code} (h : ∀ K : Env→AS→Prop,(∀ E s,ck P Γ N y Q E s→K E s)→ck P Γ N x (az K Q) E s) : ck P Γ N (.seq x y) Q E s :=
  jq (h _ fun _ _ h=>h)
theorem x8 {id : Nat} {ops : Array Oper} {y : Code} (h : ∀ K : Env→AS→Prop,(∀ E s,ck P Γ N y Q E s→K E s)→AX P Γ N ops ops.toList K E s) : ck P Γ N (.seq (.region id ops false) y) Q E s :=
  jq (nL (h _ fun _ _ h=>h))
theorem x9 {id : Nat} {ops : Array Oper} (h : ∀ K : Env→AS→Prop,(∀ E s,Q .normal E s→K E s)→AX P Γ N ops ops.toList K E s) : ck P Γ N (.region id ops false) Q E s :=
  nL (h _ fun _ _ h=>h)
theorem awp_cond_k {c : Operand} {x y : Code} (h : ∀ X Y : Prop,(ck P Γ N x Q E s→X)→(ck P Γ N y Q E s→Y)→match aI Γ E c with | .v (.bool t)=>(t = true→X)∧(t = false→Y) | _=>False) : ck P Γ N (.cond c x y) Q E s:=by
  have h1:=h _ _ id id;split at h1
  · rename_i t hc; exact xW hc h1.1 h1.2
  · exact h1.elim
theorem CG (hm : P.follows .mixedOrders = true) (fl : List Nat) {id : Nat} {ops : Array Oper} {y : Code} (ie : rJ ops fl = true) (h : ∀ K : Env→AS→Prop,(∀ E s,ck P Γ N y Q E s→K E s)→pr P Γ N ops (sV fl 0 ops.toList) K E s) :
    ck P Γ N (.seq (.region id ops true) y) Q E s :=
  jq (oG hm fl ie (by rw [Bu]; exact h _ fun _ _ h=>h))
theorem CH (hm : P.follows .mixedOrders = true) (fl : List Nat) {id : Nat} {ops : Array Oper} (ie : rJ ops fl = true) (h : ∀ K : Env→AS→Prop,(∀ E s,Q .normal E s→K E s)→pr P Γ N ops (sV fl 0 ops.toList) K E s) :
    ck P Γ N (.region id ops true) Q E s :=
  oG hm fl ie (by rw [Bu]; exact h _ fun _ _ h=>h)
end
end Go.AM
namespace Go.AM
open Go Go.RowKit
section
variable {k : IntKind}
theorem kv (h : k.signed = false) (x : Int) : k.wrap x = x % (2 ^ k.bits : Nat):=by
  cases k <;> simp [IntKind.signed] at h <;> simp [IntKind.wrap,IntKind.bits,IntKind.signed] <;> omega
theorem uE (h : k.signed = false) (a b : Nat) : eu k a b = ((a + b) % 2 ^ k.bits : Nat):=by
  rw [eu,kv h]; push_cast; rfl
theorem CI (h : k.signed = false) (a b : Nat) : lj k a b = ((a * b) % 2 ^ k.bits : Nat):=by
  rw [lj,kv h]; push_cast; rfl
theorem Bv (h : k.signed = false) (a b : Nat) (hb : b≤a) (ha : a < 2 ^ k.bits) : eC k a b = ((a - b : Nat) : Int):=by
  rw [eC,kv h,show (a : Int) - b = ((a - b : Nat) : Int) from by omega,← Int.natCast_emod,Nat.mod_eq_of_lt (by omega)]
theorem ya (a : Nat) (n : Nat) : BitVec.ofInt n (a : Int) = BitVec.ofNat n a:=by simp
theorem rM (h : k.signed = false) (a b : Nat) (ha : a < 2 ^ k.bits) (hb : b < 2 ^ k.bits) : lX k a b = ((a &&& b : Nat) : Int):=by
  rw [lX,kv h,ya,ya,BitVec.toNat_and,BitVec.toNat_ofNat,BitVec.toNat_ofNat,Nat.mod_eq_of_lt ha,Nat.mod_eq_of_lt hb,← Int.natCast_emod,Nat.mod_eq_of_lt (Nat.lt_of_le_of_lt Nat.and_le_left ha)]
theorem Bw (h : k.signed = false) (a b : Nat) (ha : a < 2 ^ k.bits) (hb : b < 2 ^ k.bits) : Gy k a b = ((a ||| b : Nat) : Int):=by
  rw [Gy,kv h,ya,ya,BitVec.toNat_or,BitVec.toNat_ofNat,BitVec.toNat_ofNat,Nat.mod_eq_of_lt ha,Nat.mod_eq_of_lt hb,← Int.natCast_emod,Nat.mod_eq_of_lt (Nat.or_lt_two_pow ha hb)]
theorem GS (h : k.signed = false) (a b : Nat) (ha : a < 2 ^ k.bits) (hb : b < 2 ^ k.bits) : Eg k a b = ((a ^^^ b : Nat) : Int):=by
  rw [Eg,kv h,ya,ya,BitVec.toNat_xor,BitVec.toNat_ofNat,BitVec.toNat_ofNat,Nat.mod_eq_of_lt ha,Nat.mod_eq_of_lt hb,← Int.natCast_emod,Nat.mod_eq_of_lt (Nat.xor_lt_two_pow ha hb)]
theorem rN (h : k.signed = false) (a c : Nat) : ko k a c = ((a * 2 ^ (min c k.bits)) % 2 ^ k.bits : Nat):=by
  rw [ko,kv h]; push_cast; simp
theorem iu (a c : Nat) : fa k a c = ((a / 2 ^ (min c k.bits) : Nat) : Int):=by
  rw [fa,Int.fdiv_eq_ediv_of_nonneg _ (Int.le_of_lt (Int.pow_pos (by decide)))]; push_cast; simp
theorem gL (h : k.signed = false) (a : Nat) : cB k a = ((a % 2 ^ k.bits : Nat) : Int):=by
  rw [cB,kv h]; push_cast; rfl
theorem S6 (h : k.signed = false) (a : Nat) (ha : a < 2 ^ k.bits) : Ln k a = ((2 ^ k.bits - 1 - a : Nat) : Int):=by
  have e : BitVec.ofInt k.bits (if k.signed = true then -1 else k.max) = BitVec.allOnes k.bits:=by
    cases k <;> simp [IntKind.signed] at h <;> rfl
  have : (BitVec.allOnes k.bits ^^^ BitVec.ofNat k.bits a).toNat = 2 ^ k.bits - 1 - a:=by
    rw [BitVec.allOnes_xor,BitVec.toNat_not,BitVec.toNat_ofNat,Nat.mod_eq_of_lt ha]
  rw [Ln,kv h,e,ya,this,← Int.natCast_emod,Nat.mod_eq_of_lt (by omega)]
theorem LB (h : k.signed = false) (a b : Nat) (ha : a < 2 ^ k.bits) : nC k a b = ((a / b : Nat) : Int):=by
  rw [nC,kv h,show (a : Int).tdiv b = ((a / b : Nat) : Int) from (Int.ofNat_tdiv a b).symm,← Int.natCast_emod,Nat.mod_eq_of_lt (Nat.lt_of_le_of_lt (Nat.div_le_self a b) ha)]
theorem nO (a b : Nat) : mV a b = ((a % b : Nat) : Int):=by rw [mV]; exact (Int.ofNat_tmod a b).symm
theorem gC {a b : Int} (h : -9223372036854775808≤a + b∧a + b≤9223372036854775807) : eu .i64 a b = a + b:=IntWalk.i64_in _ h
theorem dM {a b : Int} (h : -9223372036854775808≤a - b∧a - b≤9223372036854775807) : eC .i64 a b = a - b:=IntWalk.i64_in _ h
theorem fc {a b : Int} (h : -9223372036854775808≤a * b∧a * b≤9223372036854775807) : lj .i64 a b = a * b:=IntWalk.i64_in _ h
theorem uF {a : Int} (h : -9223372036854775808≤a∧a≤9223372036854775807) : cB .i64 a = a:=IntWalk.i64_in _ h
end
variable {P : Program}
def G0 (w : World) : Gh:={ ro:=fun b j=>w.cell? ⟨b,j,none⟩,obj:=fun _=>none,tok:=fun _ _=>none,no:=0,nt:=0,B:=w.heap.size,w0:=w,df:=[] }
def s0 : AS:=⟨fun _=>none,fun _=>none⟩
theorem aN.start (Γ : Nat→List AV) (w : World) (hg : ∀ g,∃ vs,ar (G0 w) (Γ g) vs∧gz (G0 w) g 0 vs) : aN Γ (G0 w) s0 w where
  ro _ _ _ h:=h
  aq o cs h:=by simp [s0] at h
  cX o b h:=by simp [G0] at h
  inj o o' b h:=by simp [G0] at h
  own t e h:=by simp [s0] at h
  cN t e t' e' b st en xq xr h:=by simp [s0] at h
  bR t e h:=by simp [s0] at h
  cD o _:=rfl
  cb t _ _:=rfl
  below:=Below.refl _ _
  others:=dt.refl _
  base:=Nat.le_refl _
  ia:=hg
  soft b c T lo hi hb hc:=by
    rcases hb with ⟨o,h⟩ | ⟨t,e,r,h,_⟩
    · simp [G0] at h
    · simp [s0] at h
theorem ah.start {Γ : Nat→List AV} {f : FuncId} {args : List AV} {b7 : AV→AS→Prop} (h : ah P Γ f args s0 b7) {w : World} {vs : List Value} (hv : ar (G0 w) args vs)
    (hg : ∀ g,∃ vs,ar (G0 w) (Γ g) vs∧gz (G0 w) g 0 vs) (hp : ∀ r s',b7 r s'→r = .v (.bool true)) :
    Calls P f vs.toArray w fun e w'=>e = .returned (.bool true)∧Below w.heap.size w w':=by
  refine (h (G0 w) w vs (aN.start Γ w hg) hv).mono ?_;rintro e w' ⟨G',r,v,s',rfl,h1,h2,h3,h4⟩;have hr:=hp r s' h4;subst hr;simp only [au] at h3;subst h3;refine ⟨rfl,?_⟩;have hb:=h2.below;rw [h1.B,h1.w0] at hb;exact hb
def Γ0 : Nat→List AV:=fun _=>[]
end Go.AM
namespace Go.AM
open Go Go.RowKit
def be : Nat→Nat→List UInt8
  | 0,_=>[]
  | k + 1,n=>UInt8.ofNat (n / 2 ^ (8 * k)) :: be k n
@[simp] theorem b8 (k n : Nat) : (be k n).length = k:=by
  induction k with
  | zero=>rfl
  | succ k ih=>simp [be,ih]
def bZ : AV:=.v (.slice none 0 0)
def aj (l : List UInt8) (sp : Sp) : AV:=.sl 1 l.length (l.map ai) sp
def Buf (s0 s : AS) (x : AV) (l : List UInt8) : Prop :=
  (x = bZ∧l = [])∨∃ t e,x = aj l (.own t e)∧s.own t = some e∧s0.own t = none
structure xu (s0 s : AS) (p : Nat) (l : List UInt8) (bad : Bool) : Prop where
  le : s0.le s
  new : s0.aq p = none
  obj : ∃ x,s.aq p = some [x,.v (.bool bad)]∧Buf s0 s x l
theorem AS.aa (s : AS) (o : Nat) (cs : List AV) : (s.set o cs).aq o = some cs:=by simp [AS.set]
theorem AS.js (s : AS) (t e : Nat) : (s.bo t e).own t = some e:=by simp [AS.bo]
theorem xu.CJ {s0 s : AS} {p : Nat} {l : List UInt8} {bad : Bool} (h : xu s0 s p l bad) {t e : Nat} {m : List UInt8} (b : Bool) (ht : s0.own t = none) : xu s0 ((s.bo t e).set p [aj m (.own t e),.v (.bool b)]) p m b :=
  ⟨AS.aB (AS.bG h.le ht e) h.new _,h.new,_,AS.aa _ _ _,.inr ⟨t,e,rfl,by simp [AS.set,AS.bo],ht⟩⟩
theorem xu.iv {s0 s : AS} {p : Nat} {l : List UInt8} {bad : Bool} (h : xu s0 s p l bad) {t : Nat} (ht : s.own t = none) : s0.own t = none:=by
  cases h0 : s0.own t with
  | none=>rfl
  | some e=>rw [h.le.own t e h0] at ht; cases ht
theorem pz (l : List UInt8) : (l.map ai).all AV.one = true:=by simp
theorem sW (n : Nat) : ai (UInt8.ofNat n) = .v (.int .u8 (cB .u8 (n : Int))):=by
  rw [gL rfl];simp [ai,IntKind.bits]
theorem Pm (n i : Nat) (hi : i < 8) : AV.v (.int .u8 (cB .u8 (fa .u64 (n : Int) (8 * (i : Int))))) = ai (UInt8.ofNat (n / 2 ^ (8 * i))):=by
  have e : (8 * (i : Int)) = ((8 * i : Nat) : Int):=(by omega);rw [e,iu,sW];have : min (8 * i) IntKind.u64.bits = 8 * i:=(by simp [IntKind.bits]; omega);rw [this]
theorem xu.one {s0 s : AS} {p : Nat} {bad : Bool} (h : xu s0 s p [] bad) {t : Nat} (ht : s.own t = none) (b : UInt8) : xu s0 ((s.bo t 0).set p [.sl 1 1 [ai b] (.own t 0),.v (.bool false)]) p [b] false :=
  h.CJ (m:=[b]) false (h.iv ht)
theorem xu.more {s0 s : AS} {p : Nat} {l : List UInt8} {bad : Bool} (h : xu s0 s p l bad) {t e : Nat} (ht : s0.own t = none) (m : List UInt8) {n : Nat} (hn : n = l.length + m.length) {cs : List AV} (hc : cs = l.map ai ++ m.map ai) :
    xu s0 ((s.bo t e).set p [.sl 1 n cs (.own t e),.v (.bool false)]) p (l ++ m) false:=by
  subst hn hc;have:=h.CJ (t:=t) (e:=e) (m:=l ++ m) false ht;simpa [aj] using this
end Go.AM
namespace Go.AM
open Go Go.RowKit
variable {P : Program} {Γ : Nat→List AV} {N : Nat} {ops : Array Oper} {K : Env→AS→Prop} {E : Env} {s : AS}
def S7 : Op→Bool
  | .call { callee:=.value _,.. }=>true
  | _=>false
theorem Ro : ∃ f : Program→(Nat→List AV)→Nat→Array Oper→List Oper→(Env→AS→Prop)→Env→AS→Prop,f = AX:=⟨_,rfl⟩
noncomputable def AY : Program→(Nat→List AV)→Nat→Array Oper→List Oper→(Env→AS→Prop)→Env→AS→Prop:=Classical.choose Ro
theorem ay : AY = AX:=Classical.choose_spec Ro
def uG (P : Program) (Γ : Nat→List AV) (N : Nat) (ops : Array Oper) (k : FuncId) (as : List AV) (dst : Option Tmp) (rest : List Oper) (K : Env→AS→Prop) (E : Env) (s : AS) : Prop :=
  ah P Γ k as s fun r s'=>AY P Γ N ops rest K (bg E dst r) s'
def yb (P : Program) (Γ : Nat→List AV) (N : Nat) (ops : Array Oper) (fv : AV) (as : List AV) (dst : Option Tmp) (rest : List Oper) (K : Env→AS→Prop) (E : Env) (s : AS) : Prop :=
  match fv with
  | .v (.func (.func k) first cd)=>first.isEmpty = true∧cd.isEmpty = true∧af P k = true∧uG P Γ N ops k as dst rest K E s
  | .qK k cd=>af P k = true∧uG P Γ N ops k (as ++ cd) dst rest K E s
  | _=>False
theorem yc (k : FuncId) (as : List AV) (dst : Option Tmp) (rest : List Oper) : yb P Γ N ops (.v (.func (.func k) #[] #[])) as dst rest K E s = (af P k = true∧uG P Γ N ops k as dst rest K E s):=by
  simp [yb]
theorem yd (k : FuncId) (cd as : List AV) (dst : Option Tmp) (rest : List Oper) : yb P Γ N ops (.qK k cd) as dst rest K E s = (af P k = true∧uG P Γ N ops k (as ++ cd) dst rest K E s):=rfl
theorem ad {k : FuncId} {as : List AV} {dst : Option Tmp} {rest : List Oper} {Q : AV→AS→Prop} (h : ah P Γ k as s Q) (hk : ∀ r s',Q r s'→AY P Γ N ops rest K (bg E dst r) s') : uG P Γ N ops k as dst rest K E s:=h.mono hk
theorem GU : AY P Γ N ops [] K E s = K E s:=by rw [ay]; rfl
theorem fI {dst : Option Tmp} {op : Op} {ty : TypeId} {pos : String} {after : Array Edge} {rest : List Oper} (_hc : S7 op = false) :
    AY P Γ N ops ({ dst:=dst,op:=op,type:=ty,pos:=pos,after:=after,guard:=none } :: rest) K E s = ((∀ d,dst = some d→d < N)∧bX P Γ (aI Γ E) s (fun r s'=>AY P Γ N ops rest K (bg E dst r) s') op):=by
  simp only [ay,AX]
theorem ye {o : Oper} {rest : List Oper} {j d : Nat} {want t : Bool} (hg : o.guard = some (j,want)) (hj : nK ops j = some d) (hE : E d = .v (.bool t)) :
    AY P Γ N ops (o :: rest) K E s = if t = want then AY P Γ N ops ({ o with guard:=none } :: rest) K E s else ((∀ d,o.dst = some d→d < N)∧AY P Γ N ops rest K (bg E o.dst (.v undef)) s):=by
  simp only [ay,AX,hg,hj,hE];split <;> rfl
theorem Iy {dst : Option Tmp} (x : Operand) {ty : TypeId} {pos : String} {after : Array Edge} {rest : List Oper} : AY P Γ N ops ({ dst:=dst,op:=(.move x),type:=ty,pos:=pos,after:=after,guard:=none } :: rest) K E s = ((∀ d,dst = some d→d < N)∧bX P Γ (aI Γ E) s (fun r s'=>AY P Γ N ops rest K (bg E dst r) s') (.move x)):=fI rfl
theorem Bx {dst : Option Tmp} (x : Operand) {ty : TypeId} {pos : String} {after : Array Edge} {rest : List Oper} : AY P Γ N ops ({ dst:=dst,op:=(.assign x),type:=ty,pos:=pos,after:=after,guard:=none } :: rest) K E s = ((∀ d,dst = some d→d < N)∧bX P Γ (aI Γ E) s (fun r s'=>AY P Γ N ops rest K (bg E dst r) s') (.assign x)):=fI rfl
theorem Iz {dst : Option Tmp} (a b c : Operand) {ty : TypeId} {pos : String} {after : Array Edge} {rest : List Oper} : AY P Γ N ops ({ dst:=dst,op:=(.pick a b c),type:=ty,pos:=pos,after:=after,guard:=none } :: rest) K E s = ((∀ d,dst = some d→d < N)∧bX P Γ (aI Γ E) s (fun r s'=>AY P Γ N ops rest K (bg E dst r) s') (.pick a b c)):=fI rfl
theorem Ex {dst : Option Tmp} (t : TypeId) {ty : TypeId} {pos : String} {after : Array Edge} {rest : List Oper} : AY P Γ N ops ({ dst:=dst,op:=(.alloc t),type:=ty,pos:=pos,after:=after,guard:=none } :: rest) K E s = ((∀ d,dst = some d→d < N)∧bX P Γ (aI Γ E) s (fun r s'=>AY P Γ N ops rest K (bg E dst r) s') (.alloc t)):=fI rfl
theorem LC {dst : Option Tmp} (t : TypeId) (x : Operand) {ty : TypeId} {pos : String} {after : Array Edge} {rest : List Oper} : AY P Γ N ops ({ dst:=dst,op:=(.box t x),type:=ty,pos:=pos,after:=after,guard:=none } :: rest) K E s = ((∀ d,dst = some d→d < N)∧bX P Γ (aI Γ E) s (fun r s'=>AY P Γ N ops rest K (bg E dst r) s') (.box t x)):=fI rfl
theorem Ey {dst : Option Tmp} (t : TypeId) (ps : Array (Nat × Operand)) {ty : TypeId} {pos : String} {after : Array Edge} {rest : List Oper} : AY P Γ N ops ({ dst:=dst,op:=(.build t ps),type:=ty,pos:=pos,after:=after,guard:=none } :: rest) K E s = ((∀ d,dst = some d→d < N)∧bX P Γ (aI Γ E) s (fun r s'=>AY P Γ N ops rest K (bg E dst r) s') (.build t ps)):=fI rfl
theorem qU {dst : Option Tmp} (t : TypeId) (n : Nat) (ps : Array (Nat × Operand)) {ty : TypeId} {pos : String} {after : Array Edge} {rest : List Oper} : AY P Γ N ops ({ dst:=dst,op:=(.buildSlice t n ps),type:=ty,pos:=pos,after:=after,guard:=none } :: rest) K E s = ((∀ d,dst = some d→d < N)∧bX P Γ (aI Γ E) s (fun r s'=>AY P Γ N ops rest K (bg E dst r) s') (.buildSlice t n ps)):=fI rfl
theorem IA {dst : Option Tmp} (t : TypeId) (x : Operand) {ty : TypeId} {pos : String} {after : Array Edge} {rest : List Oper} : AY P Γ N ops ({ dst:=dst,op:=(.load t x),type:=ty,pos:=pos,after:=after,guard:=none } :: rest) K E s = ((∀ d,dst = some d→d < N)∧bX P Γ (aI Γ E) s (fun r s'=>AY P Γ N ops rest K (bg E dst r) s') (.load t x)):=fI rfl
theorem Ez {dst : Option Tmp} (t : TypeId) (x y : Operand) {ty : TypeId} {pos : String} {after : Array Edge} {rest : List Oper} : AY P Γ N ops ({ dst:=dst,op:=(.store t x y),type:=ty,pos:=pos,after:=after,guard:=none } :: rest) K E s = ((∀ d,dst = some d→d < N)∧bX P Γ (aI Γ E) s (fun r s'=>AY P Γ N ops rest K (bg E dst r) s') (.store t x y)):=fI rfl
theorem vO {dst : Option Tmp} (x : Operand) {ty : TypeId} {pos : String} {after : Array Edge} {rest : List Oper} : AY P Γ N ops ({ dst:=dst,op:=(.nilCheck x),type:=ty,pos:=pos,after:=after,guard:=none } :: rest) K E s = ((∀ d,dst = some d→d < N)∧bX P Γ (aI Γ E) s (fun r s'=>AY P Γ N ops rest K (bg E dst r) s') (.nilCheck x)):=fI rfl
theorem EA {dst : Option Tmp} (o : BinOp) (t : TypeId) (x y : Operand) (u : TypeId) {ty : TypeId} {pos : String} {after : Array Edge} {rest : List Oper} : AY P Γ N ops ({ dst:=dst,op:=(.binOp o t x y u),type:=ty,pos:=pos,after:=after,guard:=none } :: rest) K E s = ((∀ d,dst = some d→d < N)∧bX P Γ (aI Γ E) s (fun r s'=>AY P Γ N ops rest K (bg E dst r) s') (.binOp o t x y u)):=fI rfl
theorem IB {dst : Option Tmp} (o : UnOp) (t : TypeId) (x : Operand) {ty : TypeId} {pos : String} {after : Array Edge} {rest : List Oper} : AY P Γ N ops ({ dst:=dst,op:=(.unOp o t x),type:=ty,pos:=pos,after:=after,guard:=none } :: rest) K E s = ((∀ d,dst = some d→d < N)∧bX P Γ (aI Γ E) s (fun r s'=>AY P Γ N ops rest K (bg E dst r) s') (.unOp o t x)):=fI rfl
theorem yf {dst : Option Tmp} (t u : TypeId) (x : Operand) {ty : TypeId} {pos : String} {after : Array Edge} {rest : List Oper} : AY P Γ N ops ({ dst:=dst,op:=(.convert t u x),type:=ty,pos:=pos,after:=after,guard:=none } :: rest) K E s = ((∀ d,dst = some d→d < N)∧bX P Γ (aI Γ E) s (fun r s'=>AY P Γ N ops rest K (bg E dst r) s') (.convert t u x)):=fI rfl
theorem mZ {dst : Option Tmp} (t : TypeId) (x : Operand) {ty : TypeId} {pos : String} {after : Array Edge} {rest : List Oper} : AY P Γ N ops ({ dst:=dst,op:=(.makeInterface t x),type:=ty,pos:=pos,after:=after,guard:=none } :: rest) K E s = ((∀ d,dst = some d→d < N)∧bX P Γ (aI Γ E) s (fun r s'=>AY P Γ N ops rest K (bg E dst r) s') (.makeInterface t x)):=fI rfl
theorem vP {dst : Option Tmp} (f : Fn) (a b : Array Operand) {ty : TypeId} {pos : String} {after : Array Edge} {rest : List Oper} : AY P Γ N ops ({ dst:=dst,op:=(.makeFunc f a b),type:=ty,pos:=pos,after:=after,guard:=none } :: rest) K E s = ((∀ d,dst = some d→d < N)∧bX P Γ (aI Γ E) s (fun r s'=>AY P Γ N ops rest K (bg E dst r) s') (.makeFunc f a b)):=fI rfl
theorem sX {dst : Option Tmp} (t : TypeId) (x y : Operand) {ty : TypeId} {pos : String} {after : Array Edge} {rest : List Oper} : AY P Γ N ops ({ dst:=dst,op:=(.makeSlice t x y),type:=ty,pos:=pos,after:=after,guard:=none } :: rest) K E s = ((∀ d,dst = some d→d < N)∧bX P Γ (aI Γ E) s (fun r s'=>AY P Γ N ops rest K (bg E dst r) s') (.makeSlice t x y)):=fI rfl
theorem EB {dst : Option Tmp} (t : TypeId) (x : Operand) (a b c : Option Operand) {ty : TypeId} {pos : String} {after : Array Edge} {rest : List Oper} : AY P Γ N ops ({ dst:=dst,op:=(.slice t x a b c),type:=ty,pos:=pos,after:=after,guard:=none } :: rest) K E s = ((∀ d,dst = some d→d < N)∧bX P Γ (aI Γ E) s (fun r s'=>AY P Γ N ops rest K (bg E dst r) s') (.slice t x a b c)):=fI rfl
theorem sY {dst : Option Tmp} (t : TypeId) (x : Operand) (i : Nat) {ty : TypeId} {pos : String} {after : Array Edge} {rest : List Oper} : AY P Γ N ops ({ dst:=dst,op:=(.fieldAddr t x i),type:=ty,pos:=pos,after:=after,guard:=none } :: rest) K E s = ((∀ d,dst = some d→d < N)∧bX P Γ (aI Γ E) s (fun r s'=>AY P Γ N ops rest K (bg E dst r) s') (.fieldAddr t x i)):=fI rfl
theorem EC {dst : Option Tmp} (t : TypeId) (x : Operand) (i : Nat) {ty : TypeId} {pos : String} {after : Array Edge} {rest : List Oper} : AY P Γ N ops ({ dst:=dst,op:=(.field t x i),type:=ty,pos:=pos,after:=after,guard:=none } :: rest) K E s = ((∀ d,dst = some d→d < N)∧bX P Γ (aI Γ E) s (fun r s'=>AY P Γ N ops rest K (bg E dst r) s') (.field t x i)):=fI rfl
theorem sZ {dst : Option Tmp} (t : TypeId) (x y : Operand) {ty : TypeId} {pos : String} {after : Array Edge} {rest : List Oper} : AY P Γ N ops ({ dst:=dst,op:=(.indexAddr t x y),type:=ty,pos:=pos,after:=after,guard:=none } :: rest) K E s = ((∀ d,dst = some d→d < N)∧bX P Γ (aI Γ E) s (fun r s'=>AY P Γ N ops rest K (bg E dst r) s') (.indexAddr t x y)):=fI rfl
theorem ED {dst : Option Tmp} (t : TypeId) (x y : Operand) {ty : TypeId} {pos : String} {after : Array Edge} {rest : List Oper} : AY P Γ N ops ({ dst:=dst,op:=(.index t x y),type:=ty,pos:=pos,after:=after,guard:=none } :: rest) K E s = ((∀ d,dst = some d→d < N)∧bX P Γ (aI Γ E) s (fun r s'=>AY P Γ N ops rest K (bg E dst r) s') (.index t x y)):=fI rfl
theorem yg {dst : Option Tmp} (x : Operand) (i : Nat) {ty : TypeId} {pos : String} {after : Array Edge} {rest : List Oper} : AY P Γ N ops ({ dst:=dst,op:=(.extract x i),type:=ty,pos:=pos,after:=after,guard:=none } :: rest) K E s = ((∀ d,dst = some d→d < N)∧bX P Γ (aI Γ E) s (fun r s'=>AY P Γ N ops rest K (bg E dst r) s') (.extract x i)):=fI rfl
theorem yh {dst : Option Tmp} (b : Builtin) (a : Array Operand) (t : Array TypeId) {ty : TypeId} {pos : String} {after : Array Edge} {rest : List Oper} : AY P Γ N ops ({ dst:=dst,op:=(.call { callee:=.builtin b,args:=a,argTypes:=t }),type:=ty,pos:=pos,after:=after,guard:=none } :: rest) K E s = ((∀ d,dst = some d→d < N)∧bX P Γ (aI Γ E) s (fun r s'=>AY P Γ N ops rest K (bg E dst r) s') (.call { callee:=.builtin b,args:=a,argTypes:=t })):=fI rfl
theorem IC {dst : Option Tmp} {f : Operand} {args : Array Operand} {argTypes : Array TypeId} {ty : TypeId} {pos : String} {after : Array Edge} {rest : List Oper} :
    AY P Γ N ops ({ dst:=dst,op:=.call { callee:=.value f,args:=args,argTypes:=argTypes },type:=ty,pos:=pos,after:=after,guard:=none } :: rest) K E s =
      ((∀ d,dst = some d→d < N)∧yb P Γ N ops (aI Γ E f) (args.toList.map (aI Γ E)) dst rest K E s):=by
  simp only [ay,AX,bX,cE,cY,yb,uG];rfl
theorem EE {ρ : Operand→AV} {K : AV→AS→Prop} {op : Op} : bX P Γ ρ s K op = match cE P ρ op with | some r=>K r s | none=>cY P Γ ρ s K op:=rfl
section
variable {ρ : Operand→AV} {K : AV→AS→Prop}
theorem nP {T : TypeId} {x : Operand} : cY P Γ ρ s K (.load T x) = (match ρ x with
    | .ptr o off=>(match s.aq o with
      | some cs=>P.cellsOf T≠0∧(match oE P T (cs.drop off) with | some v=>K v s | none=>False)
      | none=>False)
    | _=>False):=rfl
theorem qV {T : TypeId} {a x : Operand} : cY P Γ ρ s K (.store T a x) = (match ρ a with
    | .ptr o off=>(match s.aq o with
      | some cs=>P.cellsOf T≠0∧(ρ x).cells.length = P.cellsOf T∧off + (ρ x).cells.length≤cs.length∧(ρ x).cells.all AV.one = true∧K (.v undef) (s.set o (bn cs off (ρ x).cells))
      | none=>False)
    | _=>False):=rfl
theorem qW {T : TypeId} : cY P Γ ρ s K (.alloc T) = (match ba P T with | some z=>∀ o,s.aq o = none→K (.ptr o 0) (s.set o z) | none=>False):=rfl
theorem vQ {T : TypeId} {x : Operand} : cY P Γ ρ s K (.box T x) = ∀ o,s.aq o = none→K (.ptr o 0) (s.set o (ρ x).cells):=rfl
theorem mj {T : TypeId} {l c : Operand} : cY P Γ ρ s K (.makeSlice T l c) = (match P.underlying T,ρ l,ρ c with
    | some (.slice e),.v (.int _ n),.v (.int _ m) =>
      (match ba P e with
      | some z=>0≤n∧m = n∧P.bytesOf e * n≤2 ^ 46∧n≤2 ^ 46∧P.cellsOf e≠0∧z.length = P.cellsOf e ∧
          ∀ o,s.aq o = none→K (.gw o 0 (P.cellsOf e) n.toNat n.toNat) (s.set o (lW (n.toNat * P.cellsOf e) z))
      | none=>False)
    | _,_,_=>False):=rfl
theorem pA {x y : Operand} {T xT : TypeId} : cY P Γ ρ s K (.call { callee:=.builtin .append,args:=#[x,y],argTypes:=#[T,xT] }) = (match P.underlying T with
      | some (.slice e) =>
        (match ba P e,iO (P.cellsOf e) s (ρ y) with
        | some z,some (m,ds)=>kH P (some xT) = true∧P.cellsOf e≠0∧z.length = P.cellsOf e∧fV P e (ρ x) m ds s K
        | _,_=>Er P e xT (ρ x) (ρ y) s K)
      | _=>False):=rfl
theorem ta {x y : Operand} {T xT : TypeId} : cY P Γ ρ s K (.call { callee:=.builtin .copy,args:=#[x,y],argTypes:=#[T,xT] }) = (match P.underlying T with
      | some (.slice e) =>
        (match iO (P.cellsOf e) s (ρ y),ρ x with
        | some (m,ds),.gw o off _ n _ =>
          (match s.aq o with
          | some cs=>P.cellsOf e≠0∧ds.all AV.one = true∧off + min m n * P.cellsOf e≤cs.length ∧
              K (.v (.int .i64 ((min m n : Nat) : Int))) (s.set o (bn cs off (ds.take (min m n * P.cellsOf e))))
          | none=>False)
        | _,_=>False)
      | _=>False):=rfl
theorem pB {e : TypeId} {m : Nat} {ds : List AV} : fV P e (.v (.slice none 0 0)) m ds s K = if m = 0 then K (.v (.slice none 0 0)) s
    else m * P.bytesOf e≤2 ^ 46∧m≤2 ^ 46∧∀ t,s.own t = none→K (.sl (P.cellsOf e) m ds (.own t 0)) (s.bo t 0):=rfl
theorem tb {e : TypeId} {sz n m : Nat} {cs ds : List AV} : fV P e (.sl sz n cs .full) m ds s K = if m = 0 then K (.sl sz n cs .full) s
    else sz = P.cellsOf e∧(n + m) * P.bytesOf e≤2 ^ 46∧n + m≤2 ^ 46∧ds.all AV.one = true∧∀ t,s.own t = none→K (.sl sz (n + m) (cs ++ ds) (.own t 0)) (s.bo t 0):=rfl
theorem vR {e : TypeId} {sz n m : Nat} {cs ds : List AV} : fV P e (.sl sz n cs .new) m ds s K = if m = 0 then K (.sl sz n cs .new) s
    else sz = P.cellsOf e∧(n + m) * P.bytesOf e≤2 ^ 46∧n + m≤2 ^ 46∧ds.all AV.one = true∧∀ t,s.own t = none→K (.sl sz (n + m) (cs ++ ds) (.own t 0)) (s.bo t 0):=rfl
theorem pC {e : TypeId} {sz n m t g : Nat} {cs ds : List AV} : fV P e (.sl sz n cs (.own t g)) m ds s K = if m = 0 then K (.sl sz n cs (.own t g)) s
    else sz = P.cellsOf e∧(n + m) * P.bytesOf e≤2 ^ 46∧n + m≤2 ^ 46∧ds.all AV.one = true∧s.own t = some g∧K (.sl sz (n + m) (cs ++ ds) (.own t (g + 1))) (s.bo t (g + 1)):=rfl
end
theorem EF {dst : Option Tmp} {op : Op} {ty : TypeId} {pos : String} {after : Array Edge} {j : Nat} {want : Bool} {rest : List Oper} :
    AY P Γ N ops ({ dst:=dst,op:=op,type:=ty,pos:=pos,after:=after,guard:=some (j,want) } :: rest) K E s =
      (match nK ops j with
      | none=>(∀ d,dst = some d→d < N)∧False
      | some d=>match E d with
        | .v (.bool t)=>if t = want then AY P Γ N ops ({ dst:=dst,op:=op,type:=ty,pos:=pos,after:=after,guard:=none } :: rest) K E s else ((∀ d,dst = some d→d < N)∧AY P Γ N ops rest K (bg E dst (.v undef)) s)
        | .v (.tuple _)=>(∀ d,dst = some d→d < N)∧AY P Γ N ops rest K (bg E dst (.v undef)) s
        | _=>(∀ d,dst = some d→d < N)∧False):=by
  cases hj : nK ops j with
  | none=>simp only [ay,AX,hj]
  | some d =>
    simp only;split
    · rename_i t hE;exact ye (o:={ dst:=dst,op:=op,type:=ty,pos:=pos,after:=after,guard:=some (j,want) }) rfl hj hE
    · rename_i c hE;simp only [ay,AX,hj,hE]
    · rename_i dp;simp only [ay,AX,hj]
theorem yi : eD [] = .eJ []:=rfl
theorem yj (a : AV) : eD [a] = a:=rfl
theorem ym (a b : AV) : eD [a,b] = .eJ [a,b]:=rfl
theorem tc (a b c : AV) : eD [a,b,c] = .eJ [a,b,c]:=rfl
theorem vS (a b c d : AV) : eD [a,b,c,d] = .eJ [a,b,c,d]:=rfl
theorem vT (a b c d e : AV) : eD [a,b,c,d,e] = .eJ [a,b,c,d,e]:=rfl
def Pn (P : Program) (Γ : Nat→List AV) (N : Nat) (ops : Array Oper) (fl : List Nat) (k : Nat) (L : List Oper) (K : Env→AS→Prop) (E : Env) (s : AS) : Prop:=pr P Γ N ops (sV fl k L) K E s
theorem LD : ∃ f : Program→(Nat→List AV)→Nat→Array Oper→List Nat→Nat→List Oper→(Env→AS→Prop)→Env→AS→Prop,f = Pn:=⟨_,rfl⟩
noncomputable def S8 : Program→(Nat→List AV)→Nat→Array Oper→List Nat→Nat→List Oper→(Env→AS→Prop)→Env→AS→Prop:=Classical.choose LD
theorem axq : S8 = Pn:=Classical.choose_spec LD
theorem bI {fl : List Nat} {k : Nat} : S8 P Γ N ops fl k [] K E s = K E s:=by rw [axq]; rfl
theorem bp {fl : List Nat} {k : Nat} {o : Oper} {rest : List Oper} : S8 P Γ N ops fl k (o :: rest) K E s =
    if fl.contains k = true then AY P Γ N ops [o] (S8 P Γ N ops fl (k + 1) rest K) E s
    else ((∀ d,o.dst = some d→d < N)∧match bL P Γ ops o E with | some v=>S8 P Γ N ops fl (k + 1) rest K (bg E o.dst v) s | none=>False):=by rw [axq,ay]; rfl
section
variable {Q : Exit→Env→AS→Prop}
theorem awp_reg_seq {id : Nat} {L : List Oper} {y : Code} (h : ∀ K : Env→AS→Prop,(∀ E s,ck P Γ N y Q E s→K E s)→AY P Γ N L.toArray L K E s) : ck P Γ N (.seq (.region id L.toArray false) y) Q E s :=
  x8 fun K hK=>by simpa [ay] using h K hK
theorem awp_reg_end {id : Nat} {L : List Oper} (h : ∀ K : Env→AS→Prop,(∀ E s,Q .normal E s→K E s)→AY P Γ N L.toArray L K E s) : ck P Γ N (.region id L.toArray false) Q E s :=
  x9 fun K hK=>by simpa [ay] using h K hK
theorem bB (hm : P.follows .mixedOrders = true) (fl : List Nat) {id : Nat} {L : List Oper} {y : Code} (ie : rJ L.toArray fl = true) (h : ∀ K : Env→AS→Prop,(∀ E s,ck P Γ N y Q E s→K E s)→S8 P Γ N L.toArray fl 0 L K E s) :
    ck P Γ N (.seq (.region id L.toArray true) y) Q E s :=
  CG hm fl ie fun K hK=>by simpa [axq,Pn] using h K hK
theorem eK (hm : P.follows .mixedOrders = true) (fl : List Nat) {id : Nat} {L : List Oper} (ie : rJ L.toArray fl = true) (h : ∀ K : Env→AS→Prop,(∀ E s,Q .normal E s→K E s)→S8 P Γ N L.toArray fl 0 L K E s) :
    ck P Γ N (.region id L.toArray true) Q E s :=
  CH hm fl ie fun K hK=>by simpa [axq,Pn] using h K hK
end
end Go.AM
namespace Go.AM
open Go Go.RowKit
def dN (k n : Nat) (st : List UInt8 × Bool) : List UInt8 × Bool:=if st.2 = true then st else (st.1 ++ be k n,false)
def bf (k : Nat) (n : Int) (st : List UInt8 × Bool) : List UInt8 × Bool:=if 0≤n∧n < 2 ^ (8 * k) then dN k n.toNat st else (st.1,true)
def cx (m : List UInt8) (st : List UInt8 × Bool) : List UInt8 × Bool:=if st.2 = true then st else (st.1 ++ m,false)
def dj (k : Nat) (m : List UInt8) (st : List UInt8 × Bool) : List UInt8 × Bool:=cx m (bf k m.length st)
abbrev eR (s0 s : AS) (p : Nat) (st : List UInt8 × Bool) : Prop:=xu s0 s p st.1 st.2
def yn (x : AV) (l : List UInt8) : Prop:=(x = bZ∧l = [])∨∃ sp,x = aj l sp
theorem yn.nil : yn bZ []:=.inl ⟨rfl,rfl⟩
theorem yn.mk (l : List UInt8) (sp : Sp) : yn (aj l sp) l:=.inr ⟨sp,rfl⟩
theorem ah.any {P : Program} {Γ : Nat→List AV} {f : FuncId} {pre post : List AV} {l : List UInt8} {s : AS} {Q : AV→AS→Prop} (h0 : l = []→ah P Γ f (pre ++ bZ :: post) s Q) (h1 : ah P Γ f (pre ++ aj l .no :: post) s Q) :
    ah P Γ f (pre ++ aj l .any :: post) s Q:=by
  intro G w vs hs hv;have key : ∀ (pre : List AV) (vs : List Value),ar G (pre ++ aj l .any :: post) vs→(l = []∧ar G (pre ++ bZ :: post) vs)∨ar G (pre ++ aj l .no :: post) vs:=by
    intro pre;induction pre with
    | nil =>
      intro vs h;simp only [List.nil_append,ar] at h ⊢;obtain ⟨u,us,rfl,h1,h2⟩:=h;rcases au.any h1 with ⟨h3,_,h4⟩ | h3
      · exact .inl ⟨List.eq_nil_of_length_eq_zero h3,u,us,rfl,h4,h2⟩
      · exact .inr ⟨u,us,rfl,h3,h2⟩
    | cons x pre ih =>
      intro vs h;simp only [List.cons_append,ar] at h ⊢;obtain ⟨u,us,rfl,h1,h2⟩:=h;rcases ih us h2 with ⟨h3,h4⟩ | h3
      · exact .inl ⟨h3,u,us,rfl,h1,h4⟩
      · exact .inr ⟨u,us,rfl,h1,h3⟩
  rcases key pre vs hv with ⟨h3,h4⟩ | h3
  · exact h0 h3 G w vs hs h4
  · exact h1 G w vs hs h3
theorem GW (k n : Nat) (st : List UInt8 × Bool) : (dN k n st).1.length≤st.1.length + k:=by
  unfold dN; split <;> simp
theorem eS (k : Nat) (n : Int) (st : List UInt8 × Bool) : (bf k n st).1.length≤st.1.length + k:=by
  unfold bf; split
  · exact GW ..
  · simp
theorem eT (m : List UInt8) (st : List UInt8 × Bool) : (cx m st).1.length≤st.1.length + m.length:=by
  unfold cx; split <;> simp
theorem xu.Po {s0 s : AS} {p : Nat} {bad : Bool} (h : xu s0 s p [] bad) {t : Nat} (ht : s.own t = none) (m : List UInt8) : xu s0 ((s.bo t 0).set p [.sl 1 m.length (m.map ai) (.own t 0),.v (.bool false)]) p m false :=
  h.CJ (m:=m) false (h.iv ht)
theorem xu.bad {s0 s : AS} {p : Nat} {l : List UInt8} {bad : Bool} (h : xu s0 s p l bad) {x : AV} (hx : s.aq p = some [x,.v (.bool bad)]) (hb : Buf s0 s x l) (b : Bool) : xu s0 (s.set p [x,.v (.bool b)]) p l b :=
  ⟨AS.aB h.le h.new _,h.new,x,AS.aa _ _ _,hb⟩
theorem Bz (n : Int) (k : Nat) (hk : 8 * k≤64) (h0 : 0≤n) : (fa .i64 n (8 * (k : Int)) != 0) = decide (2 ^ (8 * k)≤n):=by
  obtain ⟨m,rfl⟩:=Int.eq_ofNat_of_zero_le h0;rw [show (8 * (k : Int)) = ((8 * k : Nat) : Int) from by omega,iu];have : min (8 * k) IntKind.i64.bits = 8 * k:=(by simp [IntKind.bits]; omega);rw [this];have e : ((2 : Int) ^ (8 * k)) = ((2 ^ (8 * k) : Nat) : Int):=(by push_cast; rfl);rw [e];have yo : 0 < 2 ^ (8 * k):=Nat.pow_pos (by decide);by_cases h : m < 2 ^ (8 * k)
  · rw [Nat.div_eq_of_lt h];simp;omega
  · have : m / 2 ^ (8 * k)≠0:=by
      rw [Ne,Nat.div_eq_zero_iff];omega
    have h1 : ((((m / 2 ^ (8 * k) : Nat) : Int) != 0) = true):=by
      rw [bne_iff_ne]; omega
    rw [h1];symm;rw [decide_eq_true_eq];omega
theorem gD (n : Nat) (h : n < 2 ^ 64) : cB .u64 (n : Int) = n:=by
  rw [gL rfl];simp [IntKind.bits,Nat.mod_eq_of_lt h]
end Go.AM
namespace Go.AM
open Go Go.RowKit
theorem Pp {a : Int} (h : (Lit.int .u64 a).wf = true) : ∃ n : Nat,a = n∧n < 2 ^ 64:=by
  have:=bounds_u64 h;exact ⟨a.toNat,by omega,by omega⟩
theorem S9 {a : Int} (h : (Lit.int .u8 a).wf = true) : ∃ n : Nat,a = n∧n < 2 ^ 8:=by
  have:=bounds_u8 h;exact ⟨a.toNat,by omega,by omega⟩
end Go.AM
