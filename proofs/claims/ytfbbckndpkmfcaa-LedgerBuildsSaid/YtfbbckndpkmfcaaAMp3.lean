/- An abstract machine for the model: abstract values, their relation to worlds, and the rules of its walk, each proved sound over the model; no condition. -/
import Derived.Test.YtfbbckndpkmfcaaAMp2
import Derived.OpenShut
set_option linter.unusedSimpArgs false
set_option linter.unusedVariables false
set_option autoImplicit false
namespace Go.AM
open Go Go.RowKit
variable {rd : Option Nat} {P : Program} {Γ : Nat→List AV} {G : Gh} {s : AS} {w : World}
def depMask (ops : Array Oper) (D : List Nat) (o : Oper) : Nat :=
  o.after.toList.foldl (fun m e=>if Region.binds .any e then m ||| 2 ^ e.on ||| D.getD e.on 0 else m) 0
def depEq (ops : Array Oper) (D : List Nat) : Bool :=
  (List.range ops.size).all fun i =>
    match ops[i]? with
    | some o=>D.getD i 0 == depMask ops D o && o.after.toList.all fun e=>!Region.binds .any e || decide (e.on < i)
    | none=>true
def pairsOk (ops : Array Oper) (D : List Nat) (fl : List Nat) : Bool :=
  (List.range ops.size).all fun j=>(List.range j).all fun i =>
    match ops[i]?,ops[j]? with
    | some x,some y=>(D.getD j 0).testBit i || (x.apart ops y && !(fl.contains i && fl.contains j))
    | _,_=>true
def drawOk (ops : Array Oper) (fl : List Nat) : Bool :=
  depEq ops (Region.before ops).toList && pairsOk ops (Region.before ops).toList fl
theorem testBit_mask (D : List Nat) (l : Nat) : ∀ (es : List Edge) (m : Nat),(es.foldl (fun m e=>if Region.binds .any e then m ||| 2 ^ e.on ||| D.getD e.on 0 else m) m).testBit l = true →
    m.testBit l = true∨∃ e ∈ es,Region.binds .any e = true∧(l = e.on∨(D.getD e.on 0).testBit l = true)
  | [],m,h=>.inl h
  | e :: es,m,h=>by
    simp only [List.foldl_cons] at h
    rcases testBit_mask D l es _ h with h1 | ⟨e',h1,h2⟩
    · split at h1
      · rename_i hb
        rw [Nat.testBit_or,Nat.testBit_or] at h1
        simp only [Bool.or_eq_true] at h1
        rcases h1 with (h1 | h1) | h1
        · exact .inl h1
        · rw [Nat.testBit_two_pow] at h1
          exact .inr ⟨e,by simp,hb,.inl (of_decide_eq_true h1).symm⟩
        · exact .inr ⟨e,by simp,hb,.inr h1⟩
      · exact .inl h1
    · exact .inr ⟨e',by simp [h1],h2⟩
theorem depEq_spec {ops : Array Oper} {D : List Nat} (h : depEq ops D = true) {i : Nat} {o : Oper} (ho : ops[i]? = some o) :
    (∀ l,(D.getD i 0).testBit l = true→∃ e ∈ o.after.toList,Region.binds .any e = true∧(l = e.on∨(D.getD e.on 0).testBit l = true))∧∀ e ∈ o.after.toList,Region.binds .any e = true→e.on < i:=by
  unfold depEq at h
  rw [List.all_eq_true] at h
  have hi : i < ops.size:=by
    rcases Nat.lt_or_ge i ops.size with h' | h'
    · exact h'
    · simp [Array.getElem?_eq_none h'] at ho
  have:=h i (by simpa using hi)
  simp only [ho,Bool.and_eq_true,beq_iff_eq,List.all_eq_true] at this
  refine ⟨fun l hl=>?_,fun e he hb=>?_⟩
  · rw [this.1] at hl
    rcases testBit_mask D l _ _ hl with h1 | h1
    · simp at h1
    · exact h1
  · have:=this.2 e he
    simpa [hb] using this
section
variable {N : Nat} {ops : Array Oper}
def left (ops : Array Oper) (listed : Array Bool) : List Nat:=(List.range ops.size).filter fun i=>!listed.getD i true
theorem mem_left {listed : Array Bool} {i : Nat} : i ∈ left ops listed↔i < ops.size∧listed.getD i true = false:=by
  simp [left]
def opAt (ops : Array Oper) (fl : List Nat) (i : Nat) : Oper × Bool:=((ops[i]?).getD default,fl.contains i)
theorem left_set {listed : Array Bool} {i : Nat} (hl : listed.size = ops.size) (hi : i < ops.size) (h0 : listed.getD i true = false) :
    ∃ L1 L2,left ops listed = L1 ++ i :: L2∧left ops (listed.setIfInBounds i true) = L1 ++ L2∧(∀ x ∈ L1,x < i∧listed.getD x true = false):=by
  have key : ∀ (n k : Nat),k≤i→i < k + n →
      ∃ L1 L2,(List.range' k n).filter (fun i=>!listed.getD i true) = L1 ++ i :: L2∧(List.range' k n).filter (fun j=>!(listed.setIfInBounds i true).getD j true) = L1 ++ L2∧(∀ x ∈ L1,x < i∧listed.getD x true = false):=by
    intro n
    induction n with
    | zero=>intro k h1 h2; omega
    | succ n ih =>
      intro k h1 h2
      rw [List.range'_succ]
      by_cases hk : k = i
      · subst hk
        refine ⟨[],(List.range' (k + 1) n).filter (fun i=>!listed.getD i true),?_,?_,by simp⟩
        · rw [List.filter_cons_of_pos (by simpa using h0)]; rfl
        · rw [List.filter_cons_of_neg (by simp [hl,hi])]
          simp only [List.nil_append]
          apply List.filter_congr
          intro x hx
          rw [getD_set_ne true (by simp at hx; omega)]
      · obtain ⟨L1,L2,q1,q2,q3⟩:=ih (k + 1) (by omega) (by omega)
        have hne : (listed.setIfInBounds i true).getD k true = listed.getD k true:=getD_set_ne true (by omega)
        by_cases hb : listed.getD k true = false
        · refine ⟨k :: L1,L2,?_,?_,?_⟩
          · rw [List.filter_cons_of_pos (by simpa using hb),q1]; rfl
          · rw [List.filter_cons_of_pos (by rw [hne]; simpa using hb),q2]; rfl
          · intro x hx
            rcases List.mem_cons.1 hx with rfl | hx
            · exact ⟨by omega,hb⟩
            · exact q3 x hx
        · refine ⟨L1,L2,?_,?_,q3⟩
          · rw [List.filter_cons_of_neg (by simpa using hb),q1]
          · rw [List.filter_cons_of_neg (by rw [hne]; simpa using hb),q2]
  have:=key ops.size 0 (by omega) (by omega)
  simpa [left,List.range_eq_range'] using this
theorem wpAny_of_AXp {fl : List Nat} {Q : Exit→Act→World→Prop} {K : Env→AS→Prop} (hok : drawOk ops fl = true) :
    ∀ (fuel : Nat) (listed : Array Bool) {G : Gh} {E : Env} {s : AS} {a : Act} {w : World},listed.size = ops.size→(left ops listed).length≤fuel →
      (∀ (i : Nat) (o : Oper),ops[i]? = some o→listed.getD i true = true→∀ e ∈ o.after.toList,Region.binds .any e = true→listed.getD e.on false = true) →
      AXp P Γ N ops ((left ops listed).map (opAt ops fl)) K E s→Rel Γ N G E s a w →
      (∀ G' E' s' a' w',G.le G'→Rel Γ N G' E' s' a' w'→K E' s'→Q .normal a' w')→wpAnyIn (fen rd) 0 P .any ops Q fuel listed a w:=by
  simp only [drawOk,Bool.and_eq_true] at hok
  obtain ⟨hdep,hpairs⟩:=hok
  intro fuel
  have hnil : ∀ (listed : Array Bool),Region.ready .any ops listed = []→left ops listed = []:=by
    intro listed h
    -- the first that is left could go
    cases hl : left ops listed with
    | nil=>rfl
    | cons i L =>
      exfalso
      have hi : i ∈ left ops listed:=by rw [hl]; simp
      obtain ⟨h1,h2⟩:=mem_left.1 hi
      have hmin : ∀ j,j < i→listed.getD j true = true:=by
        intro j hj
        cases hjl : listed.getD j true with
        | true=>rfl
        | false =>
          exfalso
          have hjm : j ∈ left ops listed:=mem_left.2 ⟨by omega,hjl⟩
          have hs : (left ops listed).Pairwise (· < ·):=by
            unfold left
            exact List.Pairwise.filter _ List.pairwise_lt_range
          rw [hl] at hs hjm
          rcases List.mem_cons.1 hjm with rfl | hjm
          · omega
          · have:=(List.pairwise_cons.1 hs).1 j hjm
            omega
      have ho : ops[i]? = some ops[i]:=by simp [h1]
      have hr : i ∈ Region.ready .any ops listed:=by
        rw [mem_ready]
        refine ⟨h2,_,ho,fun e he hb=>?_⟩
        have hlt:=(depEq_spec hdep ho).2 e (by simpa using he) hb
        have:=hmin _ hlt
        -- both defaults agree where the place is there
        have hsz : e.on < listed.size:=by
          rcases Nat.lt_or_ge e.on listed.size with h' | h'
          · exact h'
          · exfalso
            have : listed.getD i true = true:=by
              simp [Array.getElem?_eq_none (show listed.size≤i by omega)]
            rw [h2] at this; cases this
        simpa [hsz] using this
      rw [h] at hr
      cases hr
  induction fuel with
  | zero =>
    intro listed G E s a w hsz hlen hcl h hr hq
    have hl : left ops listed = []:=List.eq_nil_of_length_eq_zero (by omega)
    have hready : Region.ready .any ops listed = []:=by
      cases hrd : Region.ready .any ops listed with
      | nil=>rfl
      | cons i L =>
        exfalso
        have : i ∈ Region.ready .any ops listed:=by rw [hrd]; simp
        rw [mem_ready] at this
        obtain ⟨h0,o,ho,_⟩:=this
        have : i ∈ left ops listed:=mem_left.2 ⟨(Array.getElem?_eq_some_iff.1 ho).1,h0⟩
        rw [hl] at this
        cases this
    rw [hl] at h
    exact ⟨hready,hq G E s a w (.refl G) hr h⟩
  | succ fuel ih =>
    intro listed G E s a w hsz hlen hcl h hr hq
    refine ⟨fun hready=>?_,fun i hi=>?_⟩
    · rw [hnil listed hready] at h
      exact hq G E s a w (.refl G) hr h
    · obtain ⟨h0,o,ho,hall⟩:=mem_ready.1 hi
      have hilt : i < ops.size:=(Array.getElem?_eq_some_iff.1 ho).1
      obtain ⟨L1,L2,q1,q2,q3⟩:=left_set hsz hilt h0
      -- what comes before i is done
      have hbefore : ∀ (j : Nat) (oj : Oper),ops[j]? = some oj→(∀ e ∈ oj.after.toList,Region.binds .any e = true→listed.getD e.on false = true)→∀ l,((Region.before ops).toList.getD j 0).testBit l = true→listed.getD l false = true:=by
        intro j
        induction j using Nat.strongRecOn with
        | _ j ihj =>
          intro oj hoj hj l hl
          obtain ⟨d1,d2⟩:=depEq_spec hdep hoj
          obtain ⟨e,he,hb,h1⟩:=d1 l hl
          have hel:=hj e he hb
          rcases h1 with rfl | h1
          · exact hel
          · have hlt:=d2 e he hb
            have hon : e.on < ops.size:=by
              have:=(Array.getElem?_eq_some_iff.1 hoj).1
              omega
            have heon : ops[e.on]? = some ops[e.on]:=by simp [hon]
            refine ihj e.on hlt _ heon (hcl e.on _ heon ?_) l h1
            have : e.on < listed.size:=by omega
            simpa [this] using hel
      have hpair : ∀ x ∈ L1,Apart ops ((ops[x]?).getD default) o∧¬ (fl.contains x = true∧fl.contains i = true):=by
        intro x hx
        obtain ⟨hxi,hxl⟩:=q3 x hx
        unfold pairsOk at hpairs
        rw [List.all_eq_true] at hpairs
        have h1:=hpairs i (by simpa using hilt)
        rw [List.all_eq_true] at h1
        have h2:=h1 x (by simpa using hxi)
        have hox : ops[x]? = some (ops[x]'(by omega)):=by simp
        rw [hox,ho] at h2
        simp only [Bool.or_eq_true,Bool.and_eq_true,Bool.not_eq_true'] at h2
        rcases h2 with h2 | ⟨h2,h3⟩
        · exfalso
          have:=hbefore i o ho (fun e he hb=>hall e (by simpa using he) hb) x h2
          have hxs : x < listed.size:=by omega
          simp [hxs] at this hxl
          rw [hxl] at this; cases this
        · refine ⟨by rw [hox]; exact h2,fun hc=>?_⟩
          rw [hc.1,hc.2] at h3
          cases h3
      have hset : ∀ {G' : Gh} {E' : Env} {s' : AS} {a' : Act} {w' : World},G.le G'→AXp P Γ N ops ((L1 ++ L2).map (opAt ops fl)) K E' s'→Rel Γ N G' E' s' a' w'→wpAnyIn (fen rd) 0 P .any ops Q fuel (listed.setIfInBounds i true) a' w':=by
        intro G' E' s' a' w' hle hA hr'
        refine ih (listed.setIfInBounds i true) (by simpa using hsz) ?_ ?_ ?_ hr' (fun G'' E'' s'' a'' w'' k1 k2 k3=>hq G'' E'' s'' a'' w'' (hle.trans k1) k2 k3)
        · rw [q2]
          rw [q1] at hlen
          simp at hlen ⊢
          omega
        · intro j oj hoj hj e he hb
          by_cases hji : j = i
          · subst hji
            rw [ho] at hoj; cases hoj
            exact getD_set_true (hall e (by simpa using he) hb)
          · rw [getD_set_ne true (Ne.symm hji)] at hj
            exact getD_set_true (hcl j oj hoj hj e he hb)
        · rw [q2]; exact hA
      rw [q1] at h
      simp only [List.map_append,List.map_cons] at h hset
      have hop : opAt ops fl i = (o,fl.contains i):=by simp [opAt,ho]
      rw [hop] at h
      cases hf : fl.contains i with
      | false =>
        rw [hf] at h
        have hap : ∀ x ∈ L1.map (opAt ops fl),Apart ops x.1 o:=by
          intro x hx
          obtain ⟨j,hj,rfl⟩:=List.mem_map.1 hx
          exact (hpair j hj).1
        obtain ⟨hd,v,hv⟩:=pval_later _ hap h hr
        have h1:=AXp_first_pure _ hap hv h
        have hX : AXp P Γ N ops ((o,false) :: (L1.map (opAt ops fl) ++ L2.map (opAt ops fl))) K E s:=by
          simp only [AXp,Bool.false_eq_true,if_false,hv]
          exact ⟨hd,h1⟩
        have h2:=AXp_AX hX
        exact AX_step (L:=[]) (K:=fun E s=>AXp P Γ N ops (L1.map (opAt ops fl) ++ L2.map (opAt ops fl)) K E s) ho h2 hr (fun G' E' s' a' w' k1 k2 k3=>hset k1 k3 k2)
      | true =>
        rw [hf] at h
        have hap : ∀ x ∈ L1.map (opAt ops fl),Apart ops x.1 o∧x.2 = false:=by
          intro x hx
          obtain ⟨j,hj,rfl⟩:=List.mem_map.1 hx
          refine ⟨(hpair j hj).1,?_⟩
          cases hc : fl.contains j with
          | false=>exact hc
          | true=>exact absurd ⟨hc,hf⟩ (hpair j hj).2
        have h2:=AXp_first_eff _ hap h
        exact AX_step (L:=[]) (K:=fun E s=>AXp P Γ N ops (L1.map (opAt ops fl) ++ L2.map (opAt ops fl)) K E s) ho h2 hr (fun G' E' s' a' w' k1 k2 k3=>hset k1 k3 k2)
def marked (ops : Array Oper) (fl : List Nat) : List (Oper × Bool):=(List.range ops.size).map (opAt ops fl)
theorem AXp_frame : ∀ (L : List (Oper × Bool)) {K : Env→AS→Prop} {E : Env} {s : AS},AXp P Γ N ops L K E s→AXp P Γ N ops L (fun E' s'=>K E' s'∧∀ i,i ∉ dsts (L.map (·.1))→E' i = E i) E s
  | [],K,E,s,h=>⟨h,fun _ _=>rfl⟩
  | (o,eff) :: L,K,E,s,h=>by
    have hmem : ∀ i,i ∉ dsts (((o,eff) :: L).map (·.1))→i ∉ dsts (L.map (·.1))∧o.dst≠some i:=by
      intro i hi
      simp only [dsts,List.map_cons,List.filterMap_cons] at hi
      refine ⟨fun hm=>hi ?_,fun e=>hi (by simp [e])⟩
      simp only [dsts] at hm
      split
      · exact hm
      · exact List.mem_cons_of_mem _ hm
    simp only [AXp] at h ⊢
    split at h
    · rename_i he
      rw [if_pos he]
      refine AX_mono _ (fun E' s' hE=>?_) (AX_one_frame h)
      refine AXp_mono L (fun E'' s'' hE'=>⟨hE'.1,fun i hi=>?_⟩) (AXp_frame L hE.1)
      obtain ⟨m1,m2⟩:=hmem i hi
      rw [hE'.2 i m1,hE.2 i m2]
    · rename_i he
      rw [if_neg he]
      refine ⟨h.1,?_⟩
      have h:=h.2
      split at h
      · refine AXp_mono L (fun E'' s'' hE'=>⟨hE'.1,fun i hi=>?_⟩) (AXp_frame L h)
        obtain ⟨m1,m2⟩:=hmem i hi
        rw [hE'.2 i m1,updO_other m2]
      · exact h
theorem awp_region_draw {E : Env} {Q : Exit→Env→AS→Prop} (hm : P.follows .mixedOrders = true) (fl : List Nat) {id : Nat} (hok : drawOk ops fl = true) (h : AXp P Γ N ops (marked ops fl) (fun E' s'=>Q .normal E' s') E s) :
    AWp P Γ N (.region id ops true) Q E s:=by
  intro G a w hr
  refine wpIn_region_any hm ?_
  have hleft : left ops (Array.replicate ops.size false) = List.range ops.size:=by
    unfold left
    rw [List.filter_eq_self]
    intro i hi
    have : i < ops.size:=by simpa using hi
    simp [this]
  have hr' : Rel Γ N G E s a w.drew:=⟨hr.st.drew,hr.size,hr.tmps,hr.defers⟩
  refine wpAny_of_AXp hok ops.size (Array.replicate ops.size false) (by simp) (by rw [hleft]; simp) ?_ (by rw [hleft]; exact AXp_frame _ h) hr' ?_
  · intro i o ho hl
    have : i < ops.size:=(Array.getElem?_eq_some_iff.1 ho).1
    simp [this] at hl
  · intro G' E' s' a' w' h1 h2 h3
    refine ⟨G',E',s',h1,h2,h3.1,fun i hi=>h3.2 i fun hm=>hi ?_⟩
    have : (marked ops fl).map (·.1) = ops.toList:=by
      apply List.ext_getElem?
      intro j
      simp only [marked,List.getElem?_map]
      by_cases hj : j < ops.size
      · simp [hj,opAt]
      · simp [hj]
    have hm' : i ∈ dsts ((marked ops fl).map (·.1)):=hm
    rw [this] at hm'
    exact hm'
end
end Go.AM
namespace Go.AM
open Go Go.RowKit
variable {rd : Option Nat} {P : Program} {Γ : Nat→List AV} {G : Gh} {s : AS} {w : World}
def initE (args : List AV) : Env:=fun i=>args.getD i (.v undef)
def ares (P : Program) (E : Env) (s : AS) : ResultVar→Option AV
  | .tmp t=>some (E t)
  | .cell a T =>
    match E a with
    | .ptr o off =>
      match s.objs o with
      | some cs=>if P.cellsOf T = 0 then none else aload P T (cs.drop off)
      | none=>none
    | _=>none
def aresL (P : Program) (E : Env) (s : AS) : List ResultVar→Option (List AV)
  | []=>some []
  | r :: rs=>match ares P E s r,aresL P E s rs with | some v,some vs=>some (v :: vs) | _,_=>none
def atuple : List AV→AV
  | [r]=>r
  | rs=>.tup rs
def AEnds (P : Program) (rs : List ResultVar) (Post : AV→AS→Prop) (E : Env) (s : AS) : Prop :=
  match aresL P E s rs with
  | some vs=>∃ r s',(atuple vs).weak r∧s'.le s∧Post r s'
  | none=>False
def retQ (P : Program) (rs : List ResultVar) (Post : AV→AS→Prop) : Exit→Env→AS→Prop
  | .normal,E,s=>AEnds P rs Post E s
  | .ret,E,s=>AEnds P rs Post E s
  | _,_,_=>False
def rres (tmps : Array Value) : ResultVar→Sem Value
  | .tmp t=>pure (tmps.getD t undef)
  | .cell b t=>do loadVar t (← asAddr (tmps.getD b undef))
theorem results_eq (fn : Func) (tmps : Array Value) : results fn tmps = (do let vs ← fn.results.mapM (rres tmps); pure (if h : vs.size = 1 then vs[0] else .tuple vs)):=by
  unfold results
  have : (fun x : ResultVar=>(match x with | .tmp t=>pure (tmps.getD t undef) | .cell a t=>(do loadVar t (← asAddr (tmps.getD a undef)) : Sem Value) : Sem Value)) = rres tmps:=by
    funext x; cases x <;> rfl
  rw [← this]
  rfl
theorem run_ares {N : Nat} {E : Env} {a : Act} (hr : Rel Γ N G E s a w) {rv : ResultVar} {v : AV} (h : ares P E s rv = some v) :
    ∃ z,(rres a.tmps rv).run P w = .ok z w∧VRel G v z:=by
  cases rv with
  | tmp t=>simp only [ares] at h; cases h; exact ⟨_,rfl,hr.tmps t⟩
  | cell b T =>
    simp only [ares] at h
    have hb:=hr.tmps b
    split at h
    · rename_i o off hE
      rw [hE] at hb
      split at h
      · rename_i cs hcs
        split at h
        · cases h
        · rename_i hz
          simp only [VRel] at hb
          obtain ⟨blk,hblk,hu⟩:=hb
          obtain ⟨b',vs,h1,h2,h3,h4⟩:=hr.st.objs o cs hcs
          rw [hblk] at h1; cases h1
          obtain ⟨z,q1,q2⟩:=run_loadVar' (w:=w) h hz (h2.drop off) (b:=blk) (off:=off) (fun j u hj=>by
            rw [add_spot]
            rw [List.getElem?_drop] at hj
            exact (h4 _ _ hj).1)
          refine ⟨z,?_,q2⟩
          simp only [rres]
          rw [hu]
          simp [asAddr,q1]
      · cases h
    · cases h
theorem run_aresL {N : Nat} {E : Env} {a : Act} (hr : Rel Γ N G E s a w) : ∀ {rs : List ResultVar} {vs : List AV},aresL P E s rs = some vs →
    ∃ zs : List Value,(rs.mapM (rres a.tmps)).run P w = .ok zs w∧VRels G vs zs
  | [],vs,h=>by simp only [aresL] at h; cases h; exact ⟨[],by simp,by simp [VRels]⟩
  | r :: rs,vs,h=>by
    simp only [aresL] at h
    split at h
    · rename_i v vs' h1 h2
      cases h
      obtain ⟨z,q1,q2⟩:=run_ares hr h1
      obtain ⟨zs,q3,q4⟩:=run_aresL hr h2
      refine ⟨z :: zs,?_,by simp only [VRels]; exact ⟨z,zs,rfl,q2,q4⟩⟩
      simp only [List.mapM_cons,Sem.run_bind,q1,Result.andThen_ok,q3,Sem.run_pure]
    · cases h
theorem VRel_tuple {vs : List AV} {zs : List Value} (h : VRels G vs zs) : VRel G (atuple vs) (if h : zs.toArray.size = 1 then zs.toArray[0] else .tuple zs.toArray):=by
  have hl:=h.length
  match vs,zs,h with
  | [],[],h=>simp only [atuple,VRel]; exact ⟨[],rfl,h⟩
  | [v],[z],h =>
    simp only [VRels] at h
    obtain ⟨u,us,h1,h2,_⟩:=h
    cases h1
    simpa [atuple] using h2
  | v :: v' :: vs,z :: z' :: zs,h =>
    simp only [atuple,VRel]
    exact ⟨z :: z' :: zs,by simp,h⟩
  | [],z :: zs,h=>simp at hl
  | v :: vs,[],h=>simp at hl
  | [v],z :: z' :: zs,h=>simp at hl
  | v :: v' :: vs,[z],h=>simp at hl
theorem acalls_of {f : FuncId} {fn : Func} {c : Code} {args : List AV} {Post : AV→AS→Prop} {s : AS} (hf : P.funcs[f]? = some fn) (hb : fn.body = some c) (hn : args.length≤fn.ntmps)
    (h : AWp P Γ fn.ntmps c (retQ P fn.results.toList Post) (initE args) s) : ACalls P Γ f args s Post:=by
  intro G w vs hs hv
  have hvl:=hv.length
  refine calls_of_wp hf hb ?_
  have hrel : Rel Γ fn.ntmps (G.setDf []) (initE args) s { tmps:=vs.toArray ++ Array.replicate (fn.ntmps - vs.toArray.size) undef,defers:=[] } w:=by
    refine ⟨hs.setDf,by simp; omega,fun i=>?_,rfl⟩
    simp only [initE]
    by_cases hi : i < args.length
    · obtain ⟨u,h1,h2⟩:=hv.getD i hi
      have hi' : i < vs.length:=by omega
      rw [Array.getD_eq_getD_getElem?,Array.getElem?_append_left (by simpa using hi')]
      simp only [List.getElem?_toArray,h1,Option.getD_some]
      exact VRel.setDf _ _ h2
    · have e1 : args.getD i (.v undef) = .v undef:=by simp [List.getD,List.getElem?_eq_none (Nat.le_of_not_lt hi)]
      rw [e1,Array.getD_eq_getD_getElem?,Array.getElem?_append_right (by simp; omega)]
      simp only [VRel]
      cases hh : (Array.replicate (fn.ntmps - vs.toArray.size) undef)[i - vs.toArray.size]? with
      | none=>rfl
      | some u =>
        rw [Array.getElem?_replicate] at hh
        split at hh
        · cases hh; rfl
        · cases hh
  refine wpIn_wide.1 (wpIn_mono (F:=fen none) (n:=0) (h _ _ w hrel) ?_)
  rintro e a' w' ⟨G',E',s',h1,h2,h3,h4⟩
  have fin : AEnds P fn.results.toList Post E' s'→bodyPost P fn (fun e w'=>∃ G' r v s',e = .returned v∧G.le G'∧SRel Γ G' s' w'∧VRel G' r v∧Post r s') .normal a' w':=by
    intro hF
    unfold AEnds at hF
    split at hF
    · rename_i vs' hvs
      obtain ⟨r,s2,q1,q2,q3⟩:=hF
      obtain ⟨zs,r1,r2⟩:=run_aresL h2 hvs
      refine ⟨h2.defers.trans h1.df,if h : zs.toArray.size = 1 then zs.toArray[0] else .tuple zs.toArray,?_,G'.setDf G.df,r,_,s2,rfl,Gh.le_setDf h1,(h2.st.mono q2).setDf,VRel.setDf _ _ (q1 _ _ (VRel_tuple r2)),q3⟩
      rw [results_eq,Array.mapM_eq_mapM_toList]
      simp only [Sem.run_bind,Sem.run_map,r1,Result.andThen_ok,Sem.run_pure]
    · exact hF.elim
  cases e <;> simp only [retQ] at h3
  case normal=>exact fin h3
  case ret=>exact fin h3
def Ghost (Γ : Nat→List AV) (N : Nat) (E : Env) (s : AS) (E' : Env) (s' : AS) : Prop :=
  ∀ (G : Gh) (a : Act) (w : World),Rel Γ N G E s a w→∃ G',G.le G'∧Rel Γ N G' E' s' a w
theorem Ghost.refl {N : Nat} {E : Env} {s : AS} : Ghost Γ N E s E s:=fun G a w h=>⟨G,.refl G,h⟩
theorem Ghost.freeze {N : Nat} {E : Env} {s : AS} {d o off sz n cap : Nat} {cs : List AV} (hE : E d = .osl o off sz n cap) (ho : s.objs o = some cs) (hle : off + n * sz≤cs.length) :
    Ghost Γ N E s (upd E d (.sl sz n ((cs.drop off).take (n * sz)) .no)) (s.drop o):=by
  intro G a w hr
  obtain ⟨b,vs,h1,h2,h3,h4,h5⟩:=hr.st.freeze ho
  refine ⟨_,h3,h5,hr.size,fun i=>?_,hr.defers.trans h3.df.symm⟩
  simp only [upd]
  split
  · rename_i e
    subst e
    have:=hr.tmps i
    rw [hE] at this
    simp only [VRel] at this
    obtain ⟨b',k1,k2,k3⟩:=this
    rw [h1] at k1; cases k1
    have hl:=h2.length
    rw [k2]
    simp only [VRel]
    refine .inl ⟨b,off,cap,(vs.drop off).take (n * sz),rfl,by simp; omega,k3,VRels.mono h3 _ _ ((h2.drop _).take _),?_,trivial⟩
    have:=(h4.drop off).take (n * sz)
    simpa using this
  · exact VRel.mono h3 _ _ (hr.tmps i)
theorem awp_region_ghost {N : Nat} {E : Env} {Q : Exit→Env→AS→Prop} {id : Nat} {ops : Array Oper}
    (h : AX P Γ N ops ops.toList (fun E' s'=>∃ E'' s'',Ghost Γ N E' s' E'' s''∧(∀ i,i ∉ dsts ops.toList→E'' i = E' i)∧Q .normal E'' s'') E s) : AWp P Γ N (.region id ops false) Q E s:=by
  intro G a w hr
  refine wpIn_region (AX_wpOps ops.toList _ ?_ (AX_frame _ h) hr ?_)
  · apply List.ext_getElem?
    intro i
    simp only [List.getElem?_map]
    by_cases hi : i < ops.size
    · simp [hi]
    · simp [hi]
  · intro G' E' s' a' w' h1 h2 h3
    obtain ⟨⟨E'',s'',k1,k2,k3⟩,k4⟩:=h3
    obtain ⟨G'',q1,q2⟩:=k1 G' a' w' h2
    exact ⟨G'',E'',s'',h1.trans q1,q2,k3,fun i hi=>by rw [k2 i hi,k4 i hi]⟩
theorem AV.weak_tup2 {a b c d : AV} (h : a.weak c) (k : b.weak d) : (AV.tup [a,b]).weak (.tup [c,d]):=by
  intro G v hv
  simp only [VRel,VRels] at hv ⊢
  obtain ⟨vs,rfl,u,us,rfl,h1,u',us',rfl,h2,rfl⟩:=hv
  exact ⟨_,rfl,u,_,rfl,h G u h1,u',_,rfl,k G u' h2,rfl⟩
end Go.AM
namespace Go.AM
open Go Go.RowKit
variable {P : Program} {Γ : Nat→List AV} {s : AS}
theorem acalls_body {f : FuncId} {fn : Func} {c : Code} {rs : Array ResultVar} {N : Nat} {args : List AV} {Post : AV→AS→Prop} {s : AS} (hf : P.funcs[f]? = some fn) (hb : fn.body = some c) (hN : fn.ntmps = N) (hrs : fn.results = rs) (hn : args.length≤N)
    (h : AWp P Γ N c (retQ P rs.toList Post) (initE args) s) : ACalls P Γ f args s Post:=by
  subst hN hrs
  exact acalls_of hf hb hn h
theorem AS.set_objs_eq (s : AS) (o : Nat) (cs : List AV) : (s.set o cs).objs = upd s.objs o (some cs):=rfl
theorem AS.gain_objs (s : AS) (t e : Nat) : (s.gain t e).objs = s.objs:=rfl
theorem AS.drop_objs (s : AS) (o : Nat) : (s.drop o).objs = upd s.objs o none:=rfl
theorem AS.set_own (s : AS) (o : Nat) (cs : List AV) : (s.set o cs).own = s.own:=rfl
theorem AS.gain_own_eq (s : AS) (t e : Nat) : (s.gain t e).own = upd s.own t (some e):=rfl
theorem AS.drop_own (s : AS) (o : Nat) : (s.drop o).own = s.own:=rfl
theorem AS.set_set (s : AS) (o : Nat) (a b : List AV) : (s.set o a).set o b = s.set o b:=by
  simp only [AS.set,AS.mk.injEq,and_true]
  funext i
  simp only [upd]
  split <;> rfl
def markL (fl : List Nat) : Nat→List Oper→List (Oper × Bool)
  | _,[]=>[]
  | k,o :: L=>(o,fl.contains k) :: markL fl (k + 1) L
theorem markL_get (fl : List Nat) : ∀ (L : List Oper) (k i : Nat),(markL fl k L)[i]? = (L[i]?).map fun o=>(o,fl.contains (k + i))
  | [],k,i=>by simp [markL]
  | o :: L,k,0=>by simp [markL]
  | o :: L,k,i + 1=>by
    simp only [markL,List.getElem?_cons_succ]
    rw [markL_get fl L (k + 1) i,show k + 1 + i = k + (i + 1) from by omega]
theorem marked_eq (ops : Array Oper) (fl : List Nat) : marked ops fl = markL fl 0 ops.toList:=by
  apply List.ext_getElem?
  intro i
  rw [markL_get]
  simp only [marked,List.getElem?_map,Nat.zero_add]
  by_cases hi : i < ops.size
  · simp [hi,opAt]
  · simp [hi]
section
variable {N : Nat} {E : Env} {Q : Exit→Env→AS→Prop}
theorem awp_seq_k {x y : Code} (h : ∀ K : Env→AS→Prop,(∀ E s,AWp P Γ N y Q E s→K E s)→AWp P Γ N x (thenQ K Q) E s) : AWp P Γ N (.seq x y) Q E s :=
  awp_seq (h _ fun _ _ h=>h)
theorem awp_region_seq {id : Nat} {ops : Array Oper} {y : Code} (h : ∀ K : Env→AS→Prop,(∀ E s,AWp P Γ N y Q E s→K E s)→AX P Γ N ops ops.toList K E s) : AWp P Γ N (.seq (.region id ops false) y) Q E s :=
  awp_seq (awp_region (h _ fun _ _ h=>h))
theorem awp_region_end {id : Nat} {ops : Array Oper} (h : ∀ K : Env→AS→Prop,(∀ E s,Q .normal E s→K E s)→AX P Γ N ops ops.toList K E s) : AWp P Γ N (.region id ops false) Q E s :=
  awp_region (h _ fun _ _ h=>h)
theorem awp_cond_k {c : Operand} {x y : Code} (h : ∀ X Y : Prop,(AWp P Γ N x Q E s→X)→(AWp P Γ N y Q E s→Y)→match aeval Γ E c with | .v (.bool t)=>(t = true→X)∧(t = false→Y) | _=>False) : AWp P Γ N (.cond c x y) Q E s:=by
  have h1:=h _ _ id id
  split at h1
  · rename_i t hc; exact awp_cond_split hc h1.1 h1.2
  · exact h1.elim
theorem awp_draw_seq (hm : P.follows .mixedOrders = true) (fl : List Nat) {id : Nat} {ops : Array Oper} {y : Code} (hok : drawOk ops fl = true) (h : ∀ K : Env→AS→Prop,(∀ E s,AWp P Γ N y Q E s→K E s)→AXp P Γ N ops (markL fl 0 ops.toList) K E s) :
    AWp P Γ N (.seq (.region id ops true) y) Q E s :=
  awp_seq (awp_region_draw hm fl hok (by rw [marked_eq]; exact h _ fun _ _ h=>h))
theorem awp_draw_end (hm : P.follows .mixedOrders = true) (fl : List Nat) {id : Nat} {ops : Array Oper} (hok : drawOk ops fl = true) (h : ∀ K : Env→AS→Prop,(∀ E s,Q .normal E s→K E s)→AXp P Γ N ops (markL fl 0 ops.toList) K E s) :
    AWp P Γ N (.region id ops true) Q E s :=
  awp_region_draw hm fl hok (by rw [marked_eq]; exact h _ fun _ _ h=>h)
end
end Go.AM
namespace Go.AM
open Go Go.RowKit
section
variable {k : IntKind}
theorem wrap_u (h : k.signed = false) (x : Int) : k.wrap x = x % (2 ^ k.bits : Nat):=by
  cases k <;> simp [IntKind.signed] at h <;> simp [IntKind.wrap,IntKind.bits,IntKind.signed] <;> omega
theorem iadd_u (h : k.signed = false) (a b : Nat) : iadd k a b = ((a + b) % 2 ^ k.bits : Nat):=by
  rw [iadd,wrap_u h]; push_cast; rfl
theorem imul_u (h : k.signed = false) (a b : Nat) : imul k a b = ((a * b) % 2 ^ k.bits : Nat):=by
  rw [imul,wrap_u h]; push_cast; rfl
theorem bv_of (a : Nat) (n : Nat) : BitVec.ofInt n (a : Int) = BitVec.ofNat n a:=by simp
theorem ior_u (h : k.signed = false) (a b : Nat) (ha : a < 2 ^ k.bits) (hb : b < 2 ^ k.bits) : ior k a b = ((a ||| b : Nat) : Int):=by
  rw [ior,wrap_u h,bv_of,bv_of,BitVec.toNat_or,BitVec.toNat_ofNat,BitVec.toNat_ofNat,Nat.mod_eq_of_lt ha,Nat.mod_eq_of_lt hb,← Int.natCast_emod,Nat.mod_eq_of_lt (Nat.or_lt_two_pow ha hb)]
theorem ishl_u (h : k.signed = false) (a c : Nat) : ishl k a c = ((a * 2 ^ (min c k.bits)) % 2 ^ k.bits : Nat):=by
  rw [ishl,wrap_u h]; push_cast; simp
theorem iconv_u (h : k.signed = false) (a : Nat) : iconv k a = ((a % 2 ^ k.bits : Nat) : Int):=by
  rw [iconv,wrap_u h]; push_cast; rfl
theorem iadd_i64 {a b : Int} (h : -9223372036854775808≤a + b∧a + b≤9223372036854775807) : iadd .i64 a b = a + b:=IntWalk.i64_in _ h
theorem isub_i64 {a b : Int} (h : -9223372036854775808≤a - b∧a - b≤9223372036854775807) : isub .i64 a b = a - b:=IntWalk.i64_in _ h
theorem iconv_i64 {a : Int} (h : -9223372036854775808≤a∧a≤9223372036854775807) : iconv .i64 a = a:=IntWalk.i64_in _ h
end
variable {P : Program}
def G0 (w : World) : Gh:={ ro:=fun b j=>w.cell? ⟨b,j,none⟩,obj:=fun _=>none,tok:=fun _ _=>none,no:=0,nt:=0,B:=w.heap.size,w0:=w,df:=[] }
def s0 : AS:=⟨fun _=>none,fun _=>none,fun _=>none⟩
theorem SRel.start (Γ : Nat→List AV) (w : World) (hg : ∀ g,∃ vs,VRels (G0 w) (Γ g) vs∧RoAt (G0 w) g 0 vs) : SRel Γ (G0 w) s0 w where
  ro _ _ _ h:=h
  objs o cs h:=by simp [s0] at h
  maps b l h:=by simp [s0] at h
  objLt o b h:=by simp [G0] at h
  inj o o' b h:=by simp [G0] at h
  own t e h:=by simp [s0] at h
  ownInj t e t' e' b st en st' en' h:=by simp [s0] at h
  ownLast t e h:=by simp [s0] at h
  freshO o _:=rfl
  freshT t _ _:=rfl
  below:=Below.refl _ _
  others:=Keeps.refl _
  base:=Nat.le_refl _
  glob:=hg
  soft b c T lo hi hb hc:=by
    rcases hb with ⟨o,h⟩ | ⟨t,e,r,h,_⟩
    · simp [G0] at h
    · simp [s0] at h
theorem ACalls.start {Γ : Nat→List AV} {f : FuncId} {args : List AV} {Post : AV→AS→Prop} (h : ACalls P Γ f args s0 Post) {w : World} {vs : List Value} (hv : VRels (G0 w) args vs)
    (hg : ∀ g,∃ vs,VRels (G0 w) (Γ g) vs∧RoAt (G0 w) g 0 vs) (hp : ∀ r s',Post r s'→r = .v (.bool true)) :
    Calls P f vs.toArray w fun e w'=>e = .returned (.bool true)∧Below w.heap.size w w':=by
  refine (h (G0 w) w vs (SRel.start Γ w hg) hv).mono ?_
  rintro e w' ⟨G',r,v,s',rfl,h1,h2,h3,h4⟩
  have hr:=hp r s' h4
  subst hr
  simp only [VRel] at h3
  subst h3
  refine ⟨rfl,?_⟩
  have hb:=h2.below
  rw [h1.B,h1.w0] at hb
  exact hb
def Γ0 : Nat→List AV:=fun _=>[]
theorem glob0 (w : World) : ∀ g,∃ vs,VRels (G0 w) (Γ0 g) vs∧RoAt (G0 w) g 0 vs:=fun g=>⟨[],by simp [Γ0,VRels],fun j u h=>by simp at h⟩
theorem ACalls.use {Γ : Nat→List AV} {f : FuncId} {args : List AV} {s : AS} {Q R : AV→AS→Prop} (h : ACalls P Γ f args s Q) (k : ∀ r s',Q r s'→R r s') : ACalls P Γ f args s R:=h.mono k
end Go.AM
namespace Go.AM
open Go Go.RowKit
def be : Nat→Nat→List UInt8
  | 0,_=>[]
  | k + 1,n=>UInt8.ofNat (n / 2 ^ (8 * k)) :: be k n
@[simp] theorem length_be (k n : Nat) : (be k n).length = k:=by
  induction k with
  | zero=>rfl
  | succ k ih=>simp [be,ih]
def nilS : AV:=.v (.slice none 0 0)
def bytesV (l : List UInt8) (sp : Sp) : AV:=.sl 1 l.length (l.map byteV) sp
def Buf (s0 s : AS) (x : AV) (l : List UInt8) : Prop :=
  (x = nilS∧l = [])∨∃ t e,x = bytesV l (.own t e)∧s.own t = some e∧s0.own t = none
structure Pen (s0 s : AS) (p : Nat) (l : List UInt8) (bad : Bool) : Prop where
  le : s0.le s
  new : s0.objs p = none
  obj : ∃ x,s.objs p = some [x,.v (.bool bad)]∧Buf s0 s x l
theorem AS.set_objs_same (s : AS) (o : Nat) (cs : List AV) : (s.set o cs).objs o = some cs:=by simp [AS.set]
theorem Pen.put_new {s0 s : AS} {p : Nat} {l : List UInt8} {bad : Bool} (h : Pen s0 s p l bad) {t e : Nat} {m : List UInt8} (b : Bool) (ht : s0.own t = none) : Pen s0 ((s.gain t e).set p [bytesV m (.own t e),.v (.bool b)]) p m b :=
  ⟨AS.le_set (AS.le_gain h.le ht e) h.new _,h.new,_,AS.set_objs_same _ _ _,.inr ⟨t,e,rfl,by simp [AS.set,AS.gain],ht⟩⟩
theorem Pen.own_none {s0 s : AS} {p : Nat} {l : List UInt8} {bad : Bool} (h : Pen s0 s p l bad) {t : Nat} (ht : s.own t = none) : s0.own t = none:=by
  cases h0 : s0.own t with
  | none=>rfl
  | some e=>rw [h.le.own t e h0] at ht; cases ht
theorem all_one_map (l : List UInt8) : (l.map byteV).all AV.one = true:=by simp
theorem Pen.one {s0 s : AS} {p : Nat} {bad : Bool} (h : Pen s0 s p [] bad) {t : Nat} (ht : s.own t = none) (b : UInt8) : Pen s0 ((s.gain t 0).set p [.sl 1 1 [byteV b] (.own t 0),.v (.bool false)]) p [b] false :=
  h.put_new (m:=[b]) false (h.own_none ht)
theorem Pen.more {s0 s : AS} {p : Nat} {l : List UInt8} {bad : Bool} (h : Pen s0 s p l bad) {t e : Nat} (ht : s0.own t = none) (m : List UInt8) {n : Nat} (hn : n = l.length + m.length) {cs : List AV} (hc : cs = l.map byteV ++ m.map byteV) :
    Pen s0 ((s.gain t e).set p [.sl 1 n cs (.own t e),.v (.bool false)]) p (l ++ m) false:=by
  subst hn hc
  have:=h.put_new (t:=t) (e:=e) (m:=l ++ m) false ht
  simpa [bytesV] using this
end Go.AM
namespace Go.AM
open Go Go.RowKit
variable {P : Program} {Γ : Nat→List AV} {N : Nat} {ops : Array Oper} {K : Env→AS→Prop} {E : Env} {s : AS}
def isCall : Op→Bool
  | .call { callee:=.value _,.. }=>true
  | _=>false
theorem ax_is : ∃ f : Program→(Nat→List AV)→Nat→Array Oper→List Oper→(Env→AS→Prop)→Env→AS→Prop,f = AX:=⟨_,rfl⟩
noncomputable def AY : Program→(Nat→List AV)→Nat→Array Oper→List Oper→(Env→AS→Prop)→Env→AS→Prop:=Classical.choose ax_is
theorem ay : AY = AX:=Classical.choose_spec ax_is
def ACallK (P : Program) (Γ : Nat→List AV) (N : Nat) (ops : Array Oper) (k : FuncId) (as : List AV) (dst : Option Tmp) (rest : List Oper) (K : Env→AS→Prop) (E : Env) (s : AS) : Prop :=
  ACalls P Γ k as s fun r s'=>AY P Γ N ops rest K (updO E dst r) s'
def ACallO (P : Program) (Γ : Nat→List AV) (N : Nat) (ops : Array Oper) (fv : AV) (as : List AV) (dst : Option Tmp) (rest : List Oper) (K : Env→AS→Prop) (E : Env) (s : AS) : Prop :=
  match fv with
  | .v (.func (.func k) first caps)=>first.isEmpty = true∧caps.isEmpty = true∧callable P k = true∧ACallK P Γ N ops k as dst rest K E s
  | .clo k caps=>callable P k = true∧ACallK P Γ N ops k (as ++ caps) dst rest K E s
  | _=>False
theorem ACallO_fun (k : FuncId) (as : List AV) (dst : Option Tmp) (rest : List Oper) : ACallO P Γ N ops (.v (.func (.func k) #[] #[])) as dst rest K E s = (callable P k = true∧ACallK P Γ N ops k as dst rest K E s):=by
  simp [ACallO]
theorem ACallO_clo (k : FuncId) (caps as : List AV) (dst : Option Tmp) (rest : List Oper) : ACallO P Γ N ops (.clo k caps) as dst rest K E s = (callable P k = true∧ACallK P Γ N ops k (as ++ caps) dst rest K E s):=rfl
theorem acallk {k : FuncId} {as : List AV} {dst : Option Tmp} {rest : List Oper} {Q : AV→AS→Prop} (h : ACalls P Γ k as s Q) (hk : ∀ r s',Q r s'→AY P Γ N ops rest K (updO E dst r) s') : ACallK P Γ N ops k as dst rest K E s:=h.mono hk
theorem AX_nil : AY P Γ N ops [] K E s = K E s:=by rw [ay]; rfl
theorem AX_op {dst : Option Tmp} {op : Op} {ty : TypeId} {pos : String} {after : Array Edge} {rest : List Oper} (_hc : isCall op = false) :
    AY P Γ N ops ({ dst:=dst,op:=op,type:=ty,pos:=pos,after:=after,guard:=none } :: rest) K E s = ((∀ d,dst = some d→d < N)∧astep P Γ (aeval Γ E) s (fun r s'=>AY P Γ N ops rest K (updO E dst r) s') op):=by
  simp only [ay,AX]
theorem AX_guarded {o : Oper} {rest : List Oper} {j d : Nat} {want t : Bool} (hg : o.guard = some (j,want)) (hj : gdst ops j = some d) (hE : E d = .v (.bool t)) :
    AY P Γ N ops (o :: rest) K E s = if t = want then AY P Γ N ops ({ o with guard:=none } :: rest) K E s else ((∀ d,o.dst = some d→d < N)∧AY P Γ N ops rest K (updO E o.dst (.v undef)) s):=by
  simp only [ay,AX,hg,hj,hE]
  split <;> rfl
theorem AX_move {dst : Option Tmp} (x : Operand) {ty : TypeId} {pos : String} {after : Array Edge} {rest : List Oper} : AY P Γ N ops ({ dst:=dst,op:=(.move x),type:=ty,pos:=pos,after:=after,guard:=none } :: rest) K E s = ((∀ d,dst = some d→d < N)∧astep P Γ (aeval Γ E) s (fun r s'=>AY P Γ N ops rest K (updO E dst r) s') (.move x)):=AX_op rfl
theorem AX_assign {dst : Option Tmp} (x : Operand) {ty : TypeId} {pos : String} {after : Array Edge} {rest : List Oper} : AY P Γ N ops ({ dst:=dst,op:=(.assign x),type:=ty,pos:=pos,after:=after,guard:=none } :: rest) K E s = ((∀ d,dst = some d→d < N)∧astep P Γ (aeval Γ E) s (fun r s'=>AY P Γ N ops rest K (updO E dst r) s') (.assign x)):=AX_op rfl
theorem AX_pick {dst : Option Tmp} (a b c : Operand) {ty : TypeId} {pos : String} {after : Array Edge} {rest : List Oper} : AY P Γ N ops ({ dst:=dst,op:=(.pick a b c),type:=ty,pos:=pos,after:=after,guard:=none } :: rest) K E s = ((∀ d,dst = some d→d < N)∧astep P Γ (aeval Γ E) s (fun r s'=>AY P Γ N ops rest K (updO E dst r) s') (.pick a b c)):=AX_op rfl
theorem AX_alloc {dst : Option Tmp} (t : TypeId) {ty : TypeId} {pos : String} {after : Array Edge} {rest : List Oper} : AY P Γ N ops ({ dst:=dst,op:=(.alloc t),type:=ty,pos:=pos,after:=after,guard:=none } :: rest) K E s = ((∀ d,dst = some d→d < N)∧astep P Γ (aeval Γ E) s (fun r s'=>AY P Γ N ops rest K (updO E dst r) s') (.alloc t)):=AX_op rfl
theorem AX_box {dst : Option Tmp} (t : TypeId) (x : Operand) {ty : TypeId} {pos : String} {after : Array Edge} {rest : List Oper} : AY P Γ N ops ({ dst:=dst,op:=(.box t x),type:=ty,pos:=pos,after:=after,guard:=none } :: rest) K E s = ((∀ d,dst = some d→d < N)∧astep P Γ (aeval Γ E) s (fun r s'=>AY P Γ N ops rest K (updO E dst r) s') (.box t x)):=AX_op rfl
theorem AX_build {dst : Option Tmp} (t : TypeId) (ps : Array (Nat × Operand)) {ty : TypeId} {pos : String} {after : Array Edge} {rest : List Oper} : AY P Γ N ops ({ dst:=dst,op:=(.build t ps),type:=ty,pos:=pos,after:=after,guard:=none } :: rest) K E s = ((∀ d,dst = some d→d < N)∧astep P Γ (aeval Γ E) s (fun r s'=>AY P Γ N ops rest K (updO E dst r) s') (.build t ps)):=AX_op rfl
theorem AX_buildSlice {dst : Option Tmp} (t : TypeId) (n : Nat) (ps : Array (Nat × Operand)) {ty : TypeId} {pos : String} {after : Array Edge} {rest : List Oper} : AY P Γ N ops ({ dst:=dst,op:=(.buildSlice t n ps),type:=ty,pos:=pos,after:=after,guard:=none } :: rest) K E s = ((∀ d,dst = some d→d < N)∧astep P Γ (aeval Γ E) s (fun r s'=>AY P Γ N ops rest K (updO E dst r) s') (.buildSlice t n ps)):=AX_op rfl
theorem AX_load {dst : Option Tmp} (t : TypeId) (x : Operand) {ty : TypeId} {pos : String} {after : Array Edge} {rest : List Oper} : AY P Γ N ops ({ dst:=dst,op:=(.load t x),type:=ty,pos:=pos,after:=after,guard:=none } :: rest) K E s = ((∀ d,dst = some d→d < N)∧astep P Γ (aeval Γ E) s (fun r s'=>AY P Γ N ops rest K (updO E dst r) s') (.load t x)):=AX_op rfl
theorem AX_store {dst : Option Tmp} (t : TypeId) (x y : Operand) {ty : TypeId} {pos : String} {after : Array Edge} {rest : List Oper} : AY P Γ N ops ({ dst:=dst,op:=(.store t x y),type:=ty,pos:=pos,after:=after,guard:=none } :: rest) K E s = ((∀ d,dst = some d→d < N)∧astep P Γ (aeval Γ E) s (fun r s'=>AY P Γ N ops rest K (updO E dst r) s') (.store t x y)):=AX_op rfl
theorem AX_nilCheck {dst : Option Tmp} (x : Operand) {ty : TypeId} {pos : String} {after : Array Edge} {rest : List Oper} : AY P Γ N ops ({ dst:=dst,op:=(.nilCheck x),type:=ty,pos:=pos,after:=after,guard:=none } :: rest) K E s = ((∀ d,dst = some d→d < N)∧astep P Γ (aeval Γ E) s (fun r s'=>AY P Γ N ops rest K (updO E dst r) s') (.nilCheck x)):=AX_op rfl
theorem AX_binOp {dst : Option Tmp} (o : BinOp) (t : TypeId) (x y : Operand) (u : TypeId) {ty : TypeId} {pos : String} {after : Array Edge} {rest : List Oper} : AY P Γ N ops ({ dst:=dst,op:=(.binOp o t x y u),type:=ty,pos:=pos,after:=after,guard:=none } :: rest) K E s = ((∀ d,dst = some d→d < N)∧astep P Γ (aeval Γ E) s (fun r s'=>AY P Γ N ops rest K (updO E dst r) s') (.binOp o t x y u)):=AX_op rfl
theorem AX_unOp {dst : Option Tmp} (o : UnOp) (t : TypeId) (x : Operand) {ty : TypeId} {pos : String} {after : Array Edge} {rest : List Oper} : AY P Γ N ops ({ dst:=dst,op:=(.unOp o t x),type:=ty,pos:=pos,after:=after,guard:=none } :: rest) K E s = ((∀ d,dst = some d→d < N)∧astep P Γ (aeval Γ E) s (fun r s'=>AY P Γ N ops rest K (updO E dst r) s') (.unOp o t x)):=AX_op rfl
theorem AX_convert {dst : Option Tmp} (t u : TypeId) (x : Operand) {ty : TypeId} {pos : String} {after : Array Edge} {rest : List Oper} : AY P Γ N ops ({ dst:=dst,op:=(.convert t u x),type:=ty,pos:=pos,after:=after,guard:=none } :: rest) K E s = ((∀ d,dst = some d→d < N)∧astep P Γ (aeval Γ E) s (fun r s'=>AY P Γ N ops rest K (updO E dst r) s') (.convert t u x)):=AX_op rfl
theorem AX_makeInterface {dst : Option Tmp} (t : TypeId) (x : Operand) {ty : TypeId} {pos : String} {after : Array Edge} {rest : List Oper} : AY P Γ N ops ({ dst:=dst,op:=(.makeInterface t x),type:=ty,pos:=pos,after:=after,guard:=none } :: rest) K E s = ((∀ d,dst = some d→d < N)∧astep P Γ (aeval Γ E) s (fun r s'=>AY P Γ N ops rest K (updO E dst r) s') (.makeInterface t x)):=AX_op rfl
theorem AX_makeFunc {dst : Option Tmp} (f : Fn) (a b : Array Operand) {ty : TypeId} {pos : String} {after : Array Edge} {rest : List Oper} : AY P Γ N ops ({ dst:=dst,op:=(.makeFunc f a b),type:=ty,pos:=pos,after:=after,guard:=none } :: rest) K E s = ((∀ d,dst = some d→d < N)∧astep P Γ (aeval Γ E) s (fun r s'=>AY P Γ N ops rest K (updO E dst r) s') (.makeFunc f a b)):=AX_op rfl
theorem AX_makeSlice {dst : Option Tmp} (t : TypeId) (x y : Operand) {ty : TypeId} {pos : String} {after : Array Edge} {rest : List Oper} : AY P Γ N ops ({ dst:=dst,op:=(.makeSlice t x y),type:=ty,pos:=pos,after:=after,guard:=none } :: rest) K E s = ((∀ d,dst = some d→d < N)∧astep P Γ (aeval Γ E) s (fun r s'=>AY P Γ N ops rest K (updO E dst r) s') (.makeSlice t x y)):=AX_op rfl
theorem AX_makeMap {dst : Option Tmp} (t : TypeId) (r : Option Operand) {ty : TypeId} {pos : String} {after : Array Edge} {rest : List Oper} : AY P Γ N ops ({ dst:=dst,op:=(.makeMap t r),type:=ty,pos:=pos,after:=after,guard:=none } :: rest) K E s = ((∀ d,dst = some d→d < N)∧astep P Γ (aeval Γ E) s (fun r s'=>AY P Γ N ops rest K (updO E dst r) s') (.makeMap t r)):=AX_op rfl
theorem AX_range {dst : Option Tmp} (t : TypeId) (x : Operand) {ty : TypeId} {pos : String} {after : Array Edge} {rest : List Oper} : AY P Γ N ops ({ dst:=dst,op:=(.range t x),type:=ty,pos:=pos,after:=after,guard:=none } :: rest) K E s = ((∀ d,dst = some d→d < N)∧astep P Γ (aeval Γ E) s (fun r s'=>AY P Γ N ops rest K (updO E dst r) s') (.range t x)):=AX_op rfl
theorem AX_next {dst : Option Tmp} (x : Operand) (b : Bool) {ty : TypeId} {pos : String} {after : Array Edge} {rest : List Oper} : AY P Γ N ops ({ dst:=dst,op:=(.next x b),type:=ty,pos:=pos,after:=after,guard:=none } :: rest) K E s = ((∀ d,dst = some d→d < N)∧astep P Γ (aeval Γ E) s (fun r s'=>AY P Γ N ops rest K (updO E dst r) s') (.next x b)):=AX_op rfl
theorem AX_entry {dst : Option Tmp} (x : Operand) {ty : TypeId} {pos : String} {after : Array Edge} {rest : List Oper} : AY P Γ N ops ({ dst:=dst,op:=(.entry x),type:=ty,pos:=pos,after:=after,guard:=none } :: rest) K E s = ((∀ d,dst = some d→d < N)∧astep P Γ (aeval Γ E) s (fun r s'=>AY P Γ N ops rest K (updO E dst r) s') (.entry x)):=AX_op rfl
theorem AX_lookup {dst : Option Tmp} (t : TypeId) (x y : Operand) (ok : Bool) {ty : TypeId} {pos : String} {after : Array Edge} {rest : List Oper} : AY P Γ N ops ({ dst:=dst,op:=(.lookup t x y ok),type:=ty,pos:=pos,after:=after,guard:=none } :: rest) K E s = ((∀ d,dst = some d→d < N)∧astep P Γ (aeval Γ E) s (fun r s'=>AY P Γ N ops rest K (updO E dst r) s') (.lookup t x y ok)):=AX_op rfl
theorem AX_mapUpdate {dst : Option Tmp} (t : TypeId) (x y z : Operand) {ty : TypeId} {pos : String} {after : Array Edge} {rest : List Oper} : AY P Γ N ops ({ dst:=dst,op:=(.mapUpdate t x y z),type:=ty,pos:=pos,after:=after,guard:=none } :: rest) K E s = ((∀ d,dst = some d→d < N)∧astep P Γ (aeval Γ E) s (fun r s'=>AY P Γ N ops rest K (updO E dst r) s') (.mapUpdate t x y z)):=AX_op rfl
theorem AX_slice {dst : Option Tmp} (t : TypeId) (x : Operand) (a b c : Option Operand) {ty : TypeId} {pos : String} {after : Array Edge} {rest : List Oper} : AY P Γ N ops ({ dst:=dst,op:=(.slice t x a b c),type:=ty,pos:=pos,after:=after,guard:=none } :: rest) K E s = ((∀ d,dst = some d→d < N)∧astep P Γ (aeval Γ E) s (fun r s'=>AY P Γ N ops rest K (updO E dst r) s') (.slice t x a b c)):=AX_op rfl
theorem AX_fieldAddr {dst : Option Tmp} (t : TypeId) (x : Operand) (i : Nat) {ty : TypeId} {pos : String} {after : Array Edge} {rest : List Oper} : AY P Γ N ops ({ dst:=dst,op:=(.fieldAddr t x i),type:=ty,pos:=pos,after:=after,guard:=none } :: rest) K E s = ((∀ d,dst = some d→d < N)∧astep P Γ (aeval Γ E) s (fun r s'=>AY P Γ N ops rest K (updO E dst r) s') (.fieldAddr t x i)):=AX_op rfl
theorem AX_field {dst : Option Tmp} (t : TypeId) (x : Operand) (i : Nat) {ty : TypeId} {pos : String} {after : Array Edge} {rest : List Oper} : AY P Γ N ops ({ dst:=dst,op:=(.field t x i),type:=ty,pos:=pos,after:=after,guard:=none } :: rest) K E s = ((∀ d,dst = some d→d < N)∧astep P Γ (aeval Γ E) s (fun r s'=>AY P Γ N ops rest K (updO E dst r) s') (.field t x i)):=AX_op rfl
theorem AX_indexAddr {dst : Option Tmp} (t : TypeId) (x y : Operand) {ty : TypeId} {pos : String} {after : Array Edge} {rest : List Oper} : AY P Γ N ops ({ dst:=dst,op:=(.indexAddr t x y),type:=ty,pos:=pos,after:=after,guard:=none } :: rest) K E s = ((∀ d,dst = some d→d < N)∧astep P Γ (aeval Γ E) s (fun r s'=>AY P Γ N ops rest K (updO E dst r) s') (.indexAddr t x y)):=AX_op rfl
theorem AX_index {dst : Option Tmp} (t : TypeId) (x y : Operand) {ty : TypeId} {pos : String} {after : Array Edge} {rest : List Oper} : AY P Γ N ops ({ dst:=dst,op:=(.index t x y),type:=ty,pos:=pos,after:=after,guard:=none } :: rest) K E s = ((∀ d,dst = some d→d < N)∧astep P Γ (aeval Γ E) s (fun r s'=>AY P Γ N ops rest K (updO E dst r) s') (.index t x y)):=AX_op rfl
theorem AX_extract {dst : Option Tmp} (x : Operand) (i : Nat) {ty : TypeId} {pos : String} {after : Array Edge} {rest : List Oper} : AY P Γ N ops ({ dst:=dst,op:=(.extract x i),type:=ty,pos:=pos,after:=after,guard:=none } :: rest) K E s = ((∀ d,dst = some d→d < N)∧astep P Γ (aeval Γ E) s (fun r s'=>AY P Γ N ops rest K (updO E dst r) s') (.extract x i)):=AX_op rfl
theorem AX_builtin {dst : Option Tmp} (b : Builtin) (a : Array Operand) (t : Array TypeId) {ty : TypeId} {pos : String} {after : Array Edge} {rest : List Oper} : AY P Γ N ops ({ dst:=dst,op:=(.call { callee:=.builtin b,args:=a,argTypes:=t }),type:=ty,pos:=pos,after:=after,guard:=none } :: rest) K E s = ((∀ d,dst = some d→d < N)∧astep P Γ (aeval Γ E) s (fun r s'=>AY P Γ N ops rest K (updO E dst r) s') (.call { callee:=.builtin b,args:=a,argTypes:=t })):=AX_op rfl
theorem AX_call {dst : Option Tmp} {f : Operand} {args : Array Operand} {argTypes : Array TypeId} {ty : TypeId} {pos : String} {after : Array Edge} {rest : List Oper} :
    AY P Γ N ops ({ dst:=dst,op:=.call { callee:=.value f,args:=args,argTypes:=argTypes },type:=ty,pos:=pos,after:=after,guard:=none } :: rest) K E s =
      ((∀ d,dst = some d→d < N)∧ACallO P Γ N ops (aeval Γ E f) (args.toList.map (aeval Γ E)) dst rest K E s):=by
  simp only [ay,AX,astep,aval,aeff,ACallO,ACallK]
  rfl
theorem astep_eq {ρ : Operand→AV} {K : AV→AS→Prop} {op : Op} : astep P Γ ρ s K op = match aval P ρ op with | some r=>K r s | none=>aeff P Γ ρ s K op:=rfl
section
variable {ρ : Operand→AV} {K : AV→AS→Prop}
theorem aeff_load_eq {T : TypeId} {x : Operand} : aeff P Γ ρ s K (.load T x) = (match ρ x with
    | .ptr o off=>(match s.objs o with
      | some cs=>P.cellsOf T≠0∧(match aload P T (cs.drop off) with | some v=>K v s | none=>False)
      | none=>False)
    | _=>False):=rfl
theorem aeff_store_eq {T : TypeId} {a x : Operand} : aeff P Γ ρ s K (.store T a x) = (match ρ a with
    | .ptr o off=>(match s.objs o with
      | some cs=>P.cellsOf T≠0∧(ρ x).cells.length = P.cellsOf T∧off + (ρ x).cells.length≤cs.length∧(ρ x).cells.all AV.one = true∧K (.v undef) (s.set o (asetAll cs off (ρ x).cells))
      | none=>False)
    | _=>False):=rfl
theorem aeff_alloc_eq {T : TypeId} : aeff P Γ ρ s K (.alloc T) = (match zcells P T with | some z=>∀ o,s.objs o = none→K (.ptr o 0) (s.set o z) | none=>False):=rfl
theorem aeff_box_eq {T : TypeId} {x : Operand} : aeff P Γ ρ s K (.box T x) = ∀ o,s.objs o = none→K (.ptr o 0) (s.set o (ρ x).cells):=rfl
theorem aeff_makeSlice_eq {T : TypeId} {l c : Operand} : aeff P Γ ρ s K (.makeSlice T l c) = (match P.underlying T,ρ l,ρ c with
    | some (.slice e),.v (.int _ n),.v (.int _ m) =>
      (match zcells P e with
      | some z=>0≤n∧m = n∧P.bytesOf e * n≤2 ^ 46∧n≤2 ^ 46∧P.cellsOf e≠0∧z.length = P.cellsOf e ∧
          ∀ o,s.objs o = none→K (.osl o 0 (P.cellsOf e) n.toNat n.toNat) (s.set o (zrow (n.toNat * P.cellsOf e) z))
      | none=>False)
    | _,_,_=>False):=rfl
theorem aeff_makeMap_eq {T : TypeId} : aeff P Γ ρ s K (.makeMap T none) = ∀ b,s.maps b = none→K (.v (.map (some b))) (s.setMap b []):=rfl
theorem mo_map {l : List (Value × AV)} : MO.list (.map l) = some l:=rfl
theorem mo_fix {l : List (Value × AV)} {es : Array MapEntry} {c : Nat} : MO.list (.fix l es c) = some l:=rfl
theorem aiter_ptr {r : Nat} : aiter (.v (.pointer (some ⟨r,0,none⟩))) = some r:=rfl
theorem aeff_range_eq {T : TypeId} {x : Operand} : aeff P Γ ρ s K (.range T x) = (match P.underlying T,amOf (ρ x) with
    | some (.map _ _),some b=>(match s.maps b with
      | some (.map l)=>∀ es c r,s.maps r = none→K (.v (.pointer (some ⟨r,0,none⟩))) ((s.putM b (.fix l es c)).putM r (.iter b es c l none))
      | _=>False)
    | _,_=>False):=rfl
theorem aeff_next_eq {x : Operand} : aeff P Γ ρ s K (.next x false) = (match aiter (ρ x) with
    | some r=>(match s.maps r with
      | some (.iter b es c left _)=>∃ l,s.maps b = some (.fix l es c)∧(left = []→K (.tup [.v (.bool false)]) s) ∧
          ∀ i,(h : i < left.length)→K (.tup [.v (.bool true),.v left[i].1,left[i].2]) (s.putM r (.iter b es c (left.eraseIdx i) (some left[i])))
      | _=>False)
    | none=>False):=rfl
theorem aeff_entry_eq {x : Operand} : aeff P Γ ρ s K (.entry x) = (match aiter (ρ x) with
    | some r=>(match s.maps r with
      | some (.iter b es c _ (some (k,v)))=>∃ l,s.maps b = some (.fix l es c)∧K (.tup [.v k,v]) s
      | _=>False)
    | none=>False):=rfl
theorem aeff_lookup_eq {T : TypeId} {m k : Operand} {ok : Bool} : aeff P Γ ρ s K (.lookup T m k ok) = (match P.underlying T with
    | some (.map kt et) =>
      (match amOf (ρ m),avOf (ρ k) with
      | some b,some kv =>
        (match P.underlying kt,(s.maps b).bind MO.list,azero P et with
        | some d,some l,some z=>keyPlain d kv = true∧(match amFind d kv l with
          | some (some v)=>K (if ok = true then .tup [v,.v (.bool true)] else v) s
          | some none=>K (if ok = true then .tup [.v z,.v (.bool false)] else .v z) s
          | none=>False)
        | _,_,_=>False)
      | _,_=>False)
    | _=>False):=rfl
theorem aeff_mapUpdate_eq {T : TypeId} {m k v : Operand} : aeff P Γ ρ s K (.mapUpdate T m k v) = (match P.underlying T with
    | some (.map kt _) =>
      (match amOf (ρ m),avOf (ρ k) with
      | some b,some kv =>
        (match P.underlying kt,s.maps b with
        | some d,some (.map l)=>keyPlain d kv = true∧(match amSet d kv (ρ v) l with
          | some l'=>K (.v undef) (s.setMap b l')
          | none=>False)
        | _,_=>False)
      | _,_=>False)
    | _=>False):=rfl
theorem aeff_append_eq {x y : Operand} {T xT : TypeId} : aeff P Γ ρ s K (.call { callee:=.builtin .append,args:=#[x,y],argTypes:=#[T,xT] }) = (match P.underlying T with
      | some (.slice e) =>
        (match zcells P e,asrc (P.cellsOf e) s (ρ y) with
        | some z,some (m,ds)=>srcOk P (some xT) = true∧P.cellsOf e≠0∧z.length = P.cellsOf e∧aappend P e (ρ x) m ds s K
        | _,_=>amade P e xT (ρ x) (ρ y) s K)
      | _=>False):=rfl
theorem aeff_len_eq {x : Operand} {T : TypeId} : aeff P Γ ρ s K (.call { callee:=.builtin .len,args:=#[x],argTypes:=#[T] }) = (match P.underlying T,amOf (ρ x) with
      | some (.map _ _),some b =>
        (match (s.maps b).bind MO.list with
        | some l=>K (.v (.int .i64 l.length)) s
        | none=>False)
      | _,_=>False):=rfl
theorem aeff_copy_eq {x y : Operand} {T xT : TypeId} : aeff P Γ ρ s K (.call { callee:=.builtin .copy,args:=#[x,y],argTypes:=#[T,xT] }) = (match P.underlying T with
      | some (.slice e) =>
        (match asrc (P.cellsOf e) s (ρ y),ρ x with
        | some (m,ds),.osl o off _ n _ =>
          (match s.objs o with
          | some cs=>P.cellsOf e≠0∧ds.all AV.one = true∧off + min m n * P.cellsOf e≤cs.length ∧
              K (.v (.int .i64 ((min m n : Nat) : Int))) (s.set o (asetAll cs off (ds.take (min m n * P.cellsOf e))))
          | none=>False)
        | _,_=>False)
      | _=>False):=rfl
theorem aappend_nil {e : TypeId} {m : Nat} {ds : List AV} : aappend P e (.v (.slice none 0 0)) m ds s K = if m = 0 then K (.v (.slice none 0 0)) s
    else m * P.bytesOf e≤2 ^ 46∧m≤2 ^ 46∧∀ t,s.own t = none→K (.sl (P.cellsOf e) m ds (.own t 0)) (s.gain t 0):=rfl
theorem aappend_full {e : TypeId} {sz n m : Nat} {cs ds : List AV} : aappend P e (.sl sz n cs .full) m ds s K = if m = 0 then K (.sl sz n cs .full) s
    else sz = P.cellsOf e∧(n + m) * P.bytesOf e≤2 ^ 46∧n + m≤2 ^ 46∧ds.all AV.one = true∧∀ t,s.own t = none→K (.sl sz (n + m) (cs ++ ds) (.own t 0)) (s.gain t 0):=rfl
theorem aappend_new {e : TypeId} {sz n m : Nat} {cs ds : List AV} : aappend P e (.sl sz n cs .new) m ds s K = if m = 0 then K (.sl sz n cs .new) s
    else sz = P.cellsOf e∧(n + m) * P.bytesOf e≤2 ^ 46∧n + m≤2 ^ 46∧ds.all AV.one = true∧∀ t,s.own t = none→K (.sl sz (n + m) (cs ++ ds) (.own t 0)) (s.gain t 0):=rfl
theorem aappend_own {e : TypeId} {sz n m t g : Nat} {cs ds : List AV} : aappend P e (.sl sz n cs (.own t g)) m ds s K = if m = 0 then K (.sl sz n cs (.own t g)) s
    else sz = P.cellsOf e∧(n + m) * P.bytesOf e≤2 ^ 46∧n + m≤2 ^ 46∧ds.all AV.one = true∧s.own t = some g∧K (.sl sz (n + m) (cs ++ ds) (.own t (g + 1))) (s.gain t (g + 1)):=rfl
end
theorem AX_guard {dst : Option Tmp} {op : Op} {ty : TypeId} {pos : String} {after : Array Edge} {j : Nat} {want : Bool} {rest : List Oper} :
    AY P Γ N ops ({ dst:=dst,op:=op,type:=ty,pos:=pos,after:=after,guard:=some (j,want) } :: rest) K E s =
      (match gdst ops j with
      | none=>(∀ d,dst = some d→d < N)∧False
      | some d=>match E d with
        | .v (.bool t)=>if t = want then AY P Γ N ops ({ dst:=dst,op:=op,type:=ty,pos:=pos,after:=after,guard:=none } :: rest) K E s else ((∀ d,dst = some d→d < N)∧AY P Γ N ops rest K (updO E dst (.v undef)) s)
        | .v (.tuple _)=>(∀ d,dst = some d→d < N)∧AY P Γ N ops rest K (updO E dst (.v undef)) s
        | _=>(∀ d,dst = some d→d < N)∧False):=by
  cases hj : gdst ops j with
  | none=>simp only [ay,AX,hj]
  | some d =>
    simp only
    split
    · rename_i t hE
      exact AX_guarded (o:={ dst:=dst,op:=op,type:=ty,pos:=pos,after:=after,guard:=some (j,want) }) rfl hj hE
    · rename_i c hE
      simp only [ay,AX,hj,hE]
    · rename_i hne
      simp only [ay,AX,hj]
theorem atuple_nil : atuple [] = .tup []:=rfl
theorem atuple_one (a : AV) : atuple [a] = a:=rfl
theorem atuple_two (a b : AV) : atuple [a,b] = .tup [a,b]:=rfl
theorem atuple_three (a b c : AV) : atuple [a,b,c] = .tup [a,b,c]:=rfl
theorem atuple_four (a b c d : AV) : atuple [a,b,c,d] = .tup [a,b,c,d]:=rfl
theorem atuple_five (a b c d e : AV) : atuple [a,b,c,d,e] = .tup [a,b,c,d,e]:=rfl
def AXq0 (P : Program) (Γ : Nat→List AV) (N : Nat) (ops : Array Oper) (fl : List Nat) (k : Nat) (L : List Oper) (K : Env→AS→Prop) (E : Env) (s : AS) : Prop:=AXp P Γ N ops (markL fl k L) K E s
theorem axq_is : ∃ f : Program→(Nat→List AV)→Nat→Array Oper→List Nat→Nat→List Oper→(Env→AS→Prop)→Env→AS→Prop,f = AXq0:=⟨_,rfl⟩
noncomputable def AXq : Program→(Nat→List AV)→Nat→Array Oper→List Nat→Nat→List Oper→(Env→AS→Prop)→Env→AS→Prop:=Classical.choose axq_is
theorem axq : AXq = AXq0:=Classical.choose_spec axq_is
theorem AXq_nil {fl : List Nat} {k : Nat} : AXq P Γ N ops fl k [] K E s = K E s:=by rw [axq]; rfl
theorem AXq_cons {fl : List Nat} {k : Nat} {o : Oper} {rest : List Oper} : AXq P Γ N ops fl k (o :: rest) K E s =
    if fl.contains k = true then AY P Γ N ops [o] (AXq P Γ N ops fl (k + 1) rest K) E s
    else ((∀ d,o.dst = some d→d < N)∧match pval P Γ ops o E with | some v=>AXq P Γ N ops fl (k + 1) rest K (updO E o.dst v) s | none=>False):=by rw [axq,ay]; rfl
section
variable {Q : Exit→Env→AS→Prop}
theorem awp_reg_seq {id : Nat} {L : List Oper} {y : Code} (h : ∀ K : Env→AS→Prop,(∀ E s,AWp P Γ N y Q E s→K E s)→AY P Γ N L.toArray L K E s) : AWp P Γ N (.seq (.region id L.toArray false) y) Q E s :=
  awp_region_seq fun K hK=>by simpa [ay] using h K hK
theorem awp_reg_end {id : Nat} {L : List Oper} (h : ∀ K : Env→AS→Prop,(∀ E s,Q .normal E s→K E s)→AY P Γ N L.toArray L K E s) : AWp P Γ N (.region id L.toArray false) Q E s :=
  awp_region_end fun K hK=>by simpa [ay] using h K hK
theorem awp_drw_seq (hm : P.follows .mixedOrders = true) (fl : List Nat) {id : Nat} {L : List Oper} {y : Code} (hok : drawOk L.toArray fl = true) (h : ∀ K : Env→AS→Prop,(∀ E s,AWp P Γ N y Q E s→K E s)→AXq P Γ N L.toArray fl 0 L K E s) :
    AWp P Γ N (.seq (.region id L.toArray true) y) Q E s :=
  awp_draw_seq hm fl hok fun K hK=>by simpa [axq,AXq0] using h K hK
theorem awp_drw_end (hm : P.follows .mixedOrders = true) (fl : List Nat) {id : Nat} {L : List Oper} (hok : drawOk L.toArray fl = true) (h : ∀ K : Env→AS→Prop,(∀ E s,Q .normal E s→K E s)→AXq P Γ N L.toArray fl 0 L K E s) :
    AWp P Γ N (.region id L.toArray true) Q E s :=
  awp_draw_end hm fl hok fun K hK=>by simpa [axq,AXq0] using h K hK
end
end Go.AM
namespace Go.AM
open Go Go.RowKit
def penNum (k n : Nat) (st : List UInt8 × Bool) : List UInt8 × Bool:=if st.2 = true then st else (st.1 ++ be k n,false)
def penSmall (k : Nat) (n : Int) (st : List UInt8 × Bool) : List UInt8 × Bool:=if 0≤n∧n < 2 ^ (8 * k) then penNum k n.toNat st else (st.1,true)
def penRaw (m : List UInt8) (st : List UInt8 × Bool) : List UInt8 × Bool:=if st.2 = true then st else (st.1 ++ m,false)
def penText (k : Nat) (m : List UInt8) (st : List UInt8 × Bool) : List UInt8 × Bool:=penRaw m (penSmall k m.length st)
def IsB (x : AV) (l : List UInt8) : Prop:=(x = nilS∧l = [])∨∃ sp,x = bytesV l sp
theorem IsB.nil : IsB nilS []:=.inl ⟨rfl,rfl⟩
theorem IsB.mk (l : List UInt8) (sp : Sp) : IsB (bytesV l sp) l:=.inr ⟨sp,rfl⟩
theorem IsB.weak {x : AV} {l : List UInt8} (h : IsB x l) : x.weak (bytesV l .any):=by
  rcases h with ⟨rfl,rfl⟩ | ⟨sp,rfl⟩
  · exact AV.weak_nil
  · exact AV.weak_any
theorem ACalls.any {P : Program} {Γ : Nat→List AV} {f : FuncId} {pre post : List AV} {l : List UInt8} {s : AS} {Q : AV→AS→Prop} (h0 : l = []→ACalls P Γ f (pre ++ nilS :: post) s Q) (h1 : ACalls P Γ f (pre ++ bytesV l .no :: post) s Q) :
    ACalls P Γ f (pre ++ bytesV l .any :: post) s Q:=by
  intro G w vs hs hv
  have key : ∀ (pre : List AV) (vs : List Value),VRels G (pre ++ bytesV l .any :: post) vs→(l = []∧VRels G (pre ++ nilS :: post) vs)∨VRels G (pre ++ bytesV l .no :: post) vs:=by
    intro pre
    induction pre with
    | nil =>
      intro vs h
      simp only [List.nil_append,VRels] at h ⊢
      obtain ⟨u,us,rfl,h1,h2⟩:=h
      rcases VRel.any h1 with ⟨h3,_,h4⟩ | h3
      · exact .inl ⟨List.eq_nil_of_length_eq_zero h3,u,us,rfl,h4,h2⟩
      · exact .inr ⟨u,us,rfl,h3,h2⟩
    | cons x pre ih =>
      intro vs h
      simp only [List.cons_append,VRels] at h ⊢
      obtain ⟨u,us,rfl,h1,h2⟩:=h
      rcases ih us h2 with ⟨h3,h4⟩ | h3
      · exact .inl ⟨h3,u,us,rfl,h1,h4⟩
      · exact .inr ⟨u,us,rfl,h1,h3⟩
  rcases key pre vs hv with ⟨h3,h4⟩ | h3
  · exact h0 h3 G w vs hs h4
  · exact h1 G w vs hs h3
theorem Pen.append {s0 s : AS} {p : Nat} {l : List UInt8} {bad : Bool} (h : Pen s0 s p l bad) : ∃ x,s.objs p = some [x,.v (.bool bad)]∧((x = nilS∧l = [])∨∃ t e,x = bytesV l (.own t e)∧s.own t = some e∧s0.own t = none):=h.obj
theorem Pen.bad {s0 s : AS} {p : Nat} {l : List UInt8} {bad : Bool} (h : Pen s0 s p l bad) {x : AV} (hx : s.objs p = some [x,.v (.bool bad)]) (hb : Buf s0 s x l) (b : Bool) : Pen s0 (s.set p [x,.v (.bool b)]) p l b :=
  ⟨AS.le_set h.le h.new _,h.new,x,AS.set_objs_same _ _ _,hb⟩
theorem iconv_u64_nat (n : Nat) (h : n < 2 ^ 64) : iconv .u64 (n : Int) = n:=by
  rw [iconv_u rfl]
  simp [IntKind.bits,Nat.mod_eq_of_lt h]
end Go.AM
namespace Go.AM
open Go Go.RowKit
theorem nat_u64 {a : Int} (h : (Lit.int .u64 a).wf = true) : ∃ n : Nat,a = n∧n < 2 ^ 64:=by
  have:=bounds_u64 h
  exact ⟨a.toNat,by omega,by omega⟩
theorem nat_u8 {a : Int} (h : (Lit.int .u8 a).wf = true) : ∃ n : Nat,a = n∧n < 2 ^ 8:=by
  have:=bounds_u8 h
  exact ⟨a.toNat,by omega,by omega⟩
end Go.AM
