/- An abstract machine for the model: abstract values, their relation to worlds, and the rules of its walk, each proved sound over the model; no condition. -/
import Derived.Test.YtfbbckndpkmfcaaAMp1
import Derived.Laws.IdiomCopy
import Derived.IntWalk
import Derived.MapKept
import Derived.RangeFuncRecord
import Derived.OrdersIn
import Derived.ControlIn
set_option linter.unusedSimpArgs false
set_option linter.unusedVariables false
set_option autoImplicit false
namespace Go.AM
open Go Go.RowKit
variable {P : Program} {Γ : Nat→List AV} {G : Gh} {s : AS} {w : World}
theorem gives_of {r : AV} {x : Sem Value} (h : ∃ z,x.run P w = .ok z w∧VRel G r z) (hs : SRel Γ G s w) :
    Gives Γ G s r ((do pure (.value (← x)) : Sem Next).run P w):=by
  obtain ⟨z,h1,h2⟩:=h
  exact .same hs (by simp [h1]) h2
theorem gives_of' {r : AV} {x : Sem Value} (h : ∃ G' z w',x.run P w = .ok z w'∧G.le G'∧SRel Γ G' s w'∧VRel G' r z) :
    Gives Γ G s r ((do pure (.value (← x)) : Sem Next).run P w):=by
  obtain ⟨G',z,w',h1,h2,h3,h4⟩:=h
  exact ⟨G',z,w',by simp [h1],h2,h3,h4⟩
theorem OptRel.of_map {ρ : Operand→AV} {ρ' : Operand→Value} (h : ∀ x,VRel G (ρ x) (ρ' x)) : ∀ (o : Option Operand),OptRel G (o.map ρ) (o.map ρ')
  | .none=>.none
  | .some x=>.some (h x)
theorem VRels.of_map {ρ : Operand→AV} {ρ' : Operand→Value} (h : ∀ x,VRel G (ρ x) (ρ' x)) : ∀ (l : List Operand),VRels G (l.map ρ) (l.map ρ')
  | []=>by simp [VRels]
  | x :: l=>by simp only [List.map_cons,VRels]; exact ⟨_,_,rfl,h x,VRels.of_map h l⟩
theorem run_fieldAt {S : TypeId} {x : AV} {u : Value} {i off : Nat} {T : TypeId} {r : AV} (hf : fieldOf P S i = some (off,T)) (hz : P.cellsOf T≠0)
    (h : (match x with | .ptr o a=>some (.ptr o (a + off)) | .rop cs=>some (.rop (cs.drop off)) | _=>none) = some r) (hx : VRel G x u) :
    ∃ z,(Instr.fieldAt S u i).run P w = .ok z w∧VRel G r z:=by
  unfold fieldOf at hf
  split at hf
  · rename_i fs hu
    simp only [Option.map_eq_some_iff] at hf
    obtain ⟨f,hf1,hf2⟩:=hf
    cases hf2
    split at h
    · cases h
      simp only [VRel] at hx
      obtain ⟨b,h1,rfl⟩:=hx
      refine ⟨_,?_,by simp only [VRel]; exact ⟨b,h1,rfl⟩⟩
      simp [Instr.fieldAt,run_underlying hu,hf1,Instr.sureAddr,fieldPlace,run_sizeOf' hz,hz,add_spot]
    · cases h
      simp only [VRel] at hx
      obtain ⟨b,a,vs,rfl,h1,h2⟩:=hx
      refine ⟨_,?_,by simp only [VRel]; exact ⟨b,_,_,rfl,h1.drop _,h2.drop _⟩⟩
      simp [Instr.fieldAt,run_underlying hu,hf1,Instr.sureAddr,fieldPlace,run_sizeOf' hz,hz,add_spot]
    · cases h
  · cases hf
theorem run_field' {S : TypeId} {cs : List AV} {u : Value} {i off : Nat} {T : TypeId} {r : AV} (hf : fieldOf P S i = some (off,T)) (hz : P.cellsOf T≠0)
    (h : apart P T cs off = some r) (hx : VRel G (.agg cs) u) :
    ∃ z,(Instr.field S u i).run P w = .ok z w∧VRel G r z:=by
  unfold fieldOf at hf
  split at hf
  · rename_i fs hu
    simp only [Option.map_eq_some_iff] at hf
    obtain ⟨f,hf1,hf2⟩:=hf
    cases hf2
    simp only [VRel] at hx
    obtain ⟨vs,rfl,hv⟩:=hx
    obtain ⟨z,h1,h2⟩:=run_part' (w:=w) h hz hv
    exact ⟨z,by simp [Instr.field,run_underlying hu,hf1,asAgg,h1],h2⟩
  · cases hf
theorem run_extract' {x : AV} {u : Value} {i : Nat} {r : AV} (h : (match x with | .tup cs=>cs[i]? | _=>none) = some r) (hx : VRel G x u) :
    ∃ z,(Instr.extract u i).run P w = .ok z w∧VRel G r z:=by
  split at h
  · simp only [VRel] at hx
    obtain ⟨vs,rfl,hv⟩:=hx
    obtain ⟨z,h1,h2⟩:=hv.get i r h
    exact ⟨z,by simp [Instr.extract,h1],h2⟩
  · cases h
set_option maxHeartbeats 2000000 in
theorem aval_sound (o : Oper) {ρ : Operand→AV} {ρ' : Operand→Value} {r : AV} (h : aval P ρ o.op = some r) (hρ : ∀ x,VRel G (ρ x) (ρ' x)) (hs : SRel Γ G s w) :
    Gives Γ G s r ((execOp ρ' o).run P w):=by
  obtain ⟨dst,op,type,pos,after,guard⟩:=o
  cases op <;> simp only [aval] at h <;> try (cases h; done)
  case move x=>cases h; exact .same hs (by simp [execOp]) (hρ x)
  case assign x=>cases h; exact .same hs (by simp [execOp]) (hρ x)
  case pick c a b =>
    have hc:=hρ c
    split at h
    · rename_i t ht
      rw [ht] at hc
      simp only [VRel] at hc
      cases h
      refine .same hs (v:=if t = true then ρ' a else ρ' b) (by simp [execOp,hc,asBool]) ?_
      split
      · exact hρ a
      · exact hρ b
    · cases h
  case build T parts =>
    exact gives_of (run_build (parts:=parts.toList.map fun p=>(p.1,ρ p.2)) (qs:=parts.map fun p=>(p.1,ρ' p.2)) h (by simpa using PartsRel.of_map hρ parts.toList)) hs
  case buildSlice T len parts =>
    exact gives_of' (run_buildSlice' hs (parts:=parts.toList.map fun p=>(p.1,ρ p.2)) (qs:=parts.map fun p=>(p.1,ρ' p.2)) h (by simpa using PartsRel.of_map hρ parts.toList))
  case load T x =>
    have hx:=hρ x
    split at h
    · rename_i cs hc
      rw [hc] at hx
      simp only [VRel] at hx
      obtain ⟨b,off,vs,hu,hv,hro⟩:=hx
      split at h
      · cases h
      · rename_i hz
        obtain ⟨z,h1,h2⟩:=run_loadVar' h hz hv (hs.roAt hro)
        exact .same hs (v:=z) (by simp only [execOp,hu,Instr.loadAt,Instr.sureAddr,Sem.run_bind,Sem.run_pure,Result.andThen_ok,h1]) h2
    · cases h
  case nilCheck x =>
    have hx:=hρ x
    split at h
    · rename_i o off hc
      rw [hc] at hx
      cases h
      have hx':=hx
      simp only [VRel] at hx
      obtain ⟨b,_,hu⟩:=hx
      exact .same hs (v:=ρ' x) (by simp [execOp,hu]) hx'
    · rename_i cs hc
      rw [hc] at hx
      cases h
      have hx':=hx
      simp only [VRel] at hx
      obtain ⟨b,_,_,hu,_⟩:=hx
      exact .same hs (v:=ρ' x) (by simp [execOp,hu]) hx'
    · rename_i f cs hc
      rw [hc] at hx
      cases h
      have hx':=hx
      simp only [VRel] at hx
      obtain ⟨b,hu,_⟩:=hx
      exact .same hs (v:=ρ' x) (by simp [execOp,hu]) hx'
    · rename_i f a b hc
      rw [hc] at hx
      cases h
      have hx':=hx
      simp only [VRel] at hx
      exact .same hs (v:=ρ' x) (by simp [execOp,hx]) hx'
    · cases h
  case binOp op T x y yT =>
    obtain ⟨h1,z,h2,h3⟩:=run_abin (w:=w) x y h (hρ x) (hρ y)
    exact .same hs (v:=z) (by simp [execOp,h1,h2]) h3
  case unOp op T x=>exact gives_of (run_aun h (hρ x)) hs
  case convert src dst x=>exact gives_of' (run_aconv h (hρ x) hs)
  case makeFunc fn first captured =>
    cases fn <;> simp only at h <;> try (cases h; done)
    rename_i f
    split at h
    · rename_i hf
      cases h
      have hf' : first = #[]:=by simpa using hf
      subst hf'
      refine .same hs (v:=.func (.func f) #[] (captured.map ρ')) (by simp [execOp,Instr.makeFunc]) ?_
      simp only [VRel]
      exact ⟨captured.toList.map ρ',by congr 1; apply Array.ext'; simp,VRels.of_map hρ _⟩
    · cases h
  case slice T x lo hi mx=>exact gives_of (run_aslice h (hρ x) (.of_map hρ lo) (.of_map hρ hi) (.of_map hρ mx)) hs
  case fieldAddr S x i =>
    split at h
    · rename_i off T hf
      split at h
      · cases h
      · rename_i hz
        exact gives_of (run_fieldAt hf hz h (hρ x)) hs
    · cases h
  case field S x i =>
    split at h
    · rename_i off T cs hf hc
      split at h
      · cases h
      · rename_i hz
        have hx:=hρ x
        rw [hc] at hx
        exact gives_of (run_field' hf hz h hx) hs
    · cases h
  case indexAddr T x i=>exact gives_of (run_aindexAddr h (hρ x) (hρ i)) hs
  case index T x i=>exact gives_of (run_aindex h (hρ x) (hρ i)) hs
  case extract t i=>exact gives_of (run_extract' h (hρ t)) hs
  case call c =>
    obtain ⟨callee,args,argTypes⟩:=c
    cases callee <;> simp only at h <;> try (cases h; done)
    rename_i b
    obtain ⟨z,h1,h2⟩:=run_abuiltin (w:=w) (T:=type) (consts:=args.map fun | .const _=>true | _=>false) h (VRels.of_map hρ args.toList)
    refine .same hs (v:=z) ?_ h2
    have e : (args.toList.map ρ').toArray = args.map ρ':=by apply Array.ext'; simp
    rw [e] at h1
    simp only [execOp,resolve,Sem.run_bind,Sem.run_pure,Result.andThen_ok,invoke]
    exact h1
end Go.AM
namespace Go.AM
open Go Go.RowKit
variable {P : Program} {Γ : Nat→List AV} {G : Gh} {s : AS} {w : World}
theorem map_setCells {b b' : Nat} {o : Obj} : ∀ (us : List Value) (st : Nat) (w : World),(∀ c T f,o≠.cells c T f)→w.heap[b']? = some o→(w.setCells b st us).heap[b']? = some o
  | [],_,_,_,h=>h
  | u :: us,st,w,ho,h=>by rw [World.setCells]; exact map_setCells us _ _ ho (map_setCell ho h)
theorem soft_setCells {K : Nat→Prop} {b : Nat} : ∀ (us : List Value) (st : Nat) (w : World),Soft K w→Soft K (w.setCells b st us)
  | [],_,_,h=>h
  | u :: us,st,w,h=>by rw [World.setCells]; exact soft_setCells us _ _ (soft_setCell h)
theorem SRel.setFree (h : SRel Γ G s w) {b st : Nat} {us : List Value} (hB : G.B≤b) (hr : ∀ j,st≤j→j < st + us.length→G.ro b j = none) (ho : ∀ o,G.obj o≠some b)
    (ht : ∀ t e st' en',s.own t = some e→G.tok t e≠some (b,st',en')) : SRel Γ G s (w.setCells b st us):=by
  have hout : ∀ b' j,(b'≠b∨j < st∨st + us.length≤j)→(w.setCells b st us).cell? ⟨b',j,none⟩ = w.cell? ⟨b',j,none⟩:=by
    intro b' j hd
    exact World.cell?_setCells_out b us st w ⟨b',j,none⟩ (fun h1 _=>by simp at h1; simp; omega)
  have hsz : ∀ (us : List Value) (st : Nat) (w : World),(w.setCells b st us).heap.size = w.heap.size:=by
    intro us
    induction us with
    | nil=>intro st w; rfl
    | cons u us ih=>intro st w; rw [World.setCells,ih]; simp
  have hbel : ∀ (us : List Value) (st : Nat) (w : World),Below G.B w (w.setCells b st us):=by
    intro us
    induction us with
    | nil=>intro st w; exact Below.refl _ _
    | cons u us ih=>intro st w; rw [World.setCells]; exact ((Below.refl _ _).setCell (p:=⟨b,st,none⟩) hB u).trans (ih _ _)
  constructor
  case ro =>
    intro b' j u hu
    rw [hout]
    · exact h.ro b' j u hu
    · by_cases e : b' = b
      · subst e
        right
        rcases Nat.lt_or_ge j st with h1 | h1
        · exact .inl h1
        · right
          rcases Nat.lt_or_ge j (st + us.length) with h2 | h2
          · rw [hr j h1 h2] at hu; cases hu
          · exact h2
      · exact .inl e
  case objs =>
    intro o cs hc
    obtain ⟨b',vs,h1,h2,h3,h4⟩:=h.objs o cs hc
    refine ⟨b',vs,h1,h2,h3,fun j u hu=>?_⟩
    have hbb : b'≠b:=fun e=>ho o (e ▸ h1)
    rw [hout _ _ (.inl hbb),World.frozen?_setCells]
    exact h4 j u hu
  case objLt=>intro o b' hb; rw [hsz]; exact h.objLt o b' hb
  case inj=>exact h.inj
  case own =>
    intro t e he
    obtain ⟨b',st',en',h1,h2,h3,h4,h5,h6⟩:=h.own t e he
    refine ⟨b',st',en',h1,h2,h3,fun j hj hj'=>?_,h5,by rw [hsz]; exact h6⟩
    have hbb : b'≠b:=fun e'=>ht t e _ _ he (e' ▸ h1)
    rw [hout _ _ (.inl hbb),World.frozen?_setCells]
    exact h4 j hj hj'
  case ownInj=>exact h.ownInj
  case ownLast=>exact h.ownLast
  case freshO=>exact h.freshO
  case freshT=>exact h.freshT
  case below=>exact h.below.trans (hbel us st w)
  case others =>
    refine h.others.trans ?_
    have : ∀ (us : List Value) (st : Nat) (w : World),Keeps w (w.setCells b st us):=by
      intro us
      induction us with
      | nil=>intro st w; exact Keeps.refl _
      | cons u us ih=>intro st w; rw [World.setCells]; exact (Keeps.setCell _ _ _).trans (ih _ _)
    exact this us st w
  case base=>rw [hsz]; exact h.base
  case soft =>
    exact soft_setCells us st w h.soft
  case maps=>intro b' l hb; obtain ⟨m1,ob,m2,m3⟩:=h.maps b' l hb; exact ⟨m1,ob,map_setCells us st w m3.nc m2,m3⟩
  case glob=>exact h.glob
theorem SRel.claimFree (h : SRel Γ G s w) {b st : Nat} {us : List Value} (hc : ∀ (j : Nat) (u : Value),us[j]? = some u→w.cell? ⟨b,st + j,none⟩ = some u) (hr : ∀ j,st≤j→j < st + us.length→G.ro b j = none) (ho : ∀ o,G.obj o≠some b)
    (ht : ∀ t e st' en',s.own t = some e→G.tok t e≠some (b,st',en')) : G.le (G.addRo b st us)∧SRel Γ (G.addRo b st us) s w:=by
  have hle : G.le (G.addRo b st us):=Gh.le_addRo hr
  have hro : ∀ b' j,b'≠b→(G.addRo b st us).ro b' j = G.ro b' j:=fun b' j hb=>by simp [Gh.addRo,hb]
  refine ⟨hle,?_⟩
  constructor
  case ro =>
    intro b' j u hu
    by_cases e : b' = b
    · subst e
      simp only [Gh.addRo] at hu
      split at hu
      · rename_i hj
        have:=hc (j - st) u (by simpa using hu)
        rwa [show st + (j - st) = j from by omega] at this
      · exact h.ro _ j u hu
    · rw [hro b' j e] at hu; exact h.ro b' j u hu
  case objs =>
    intro o cs hc
    obtain ⟨b',vs,h1,h2,h3,h4⟩:=h.objs o cs hc
    refine ⟨b',vs,h1,VRels.mono hle _ _ h2,h3,fun j u hu=>?_⟩
    have hbb : b'≠b:=fun e=>ho o (e ▸ h1)
    rw [hro _ _ hbb]
    exact h4 j u hu
  case objLt=>exact h.objLt
  case inj=>exact h.inj
  case own =>
    intro t e he
    obtain ⟨b',st',en',h1,h2,h3,h4,h5,h6⟩:=h.own t e he
    refine ⟨b',st',en',h1,h2,h3,fun j hj hj'=>?_,h5,h6⟩
    have hbb : b'≠b:=fun e'=>ht t e _ _ he (e' ▸ h1)
    rw [hro _ _ hbb]
    exact h4 j hj hj'
  case ownInj=>exact h.ownInj
  case ownLast=>exact h.ownLast
  case freshO=>exact h.freshO
  case freshT=>exact h.freshT
  case below=>exact h.below
  case others=>exact h.others
  case base=>exact h.base
  case soft=>exact h.soft
  case maps=>intro b' l hb; obtain ⟨m1,ob,m2,m3⟩:=h.maps b' l hb; exact ⟨m1,ob,m2,m3.mono hle⟩
  case glob =>
    intro g
    obtain ⟨us,h1,h2⟩:=h.glob g
    exact ⟨us,VRels.mono hle _ _ h1,h2.mono hle⟩
theorem SRel.fill (h : SRel Γ G s w) {t g b st en : Nat} {us : List Value} (ht : s.own t = some g) (hk : G.tok t g = some (b,st,en)) (hu : st + us.length≤en) :
    (∀ j,j < us.length→(w.cell? ⟨b,st + j,none⟩).isSome = true)∧(∀ j,j < us.length→w.frozen? ⟨b,st + j,none⟩ = false) ∧
    ∃ G',G.le G'∧SRel Γ G' (s.gain t (g + 1)) (w.setCells b st us)∧RoAt G' b st us∧G'.tok t (g + 1) = some (b,st + us.length,en):=by
  obtain ⟨b1,st1,en1,k1,k2,k3,k4,k5,k6⟩:=h.own t g ht
  rw [hk] at k1
  simp only [Option.some.injEq,Prod.mk.injEq] at k1
  obtain ⟨rfl,rfl,rfl⟩:=k1
  refine ⟨fun j hj=>?_,fun j hj=>(k4 (st + j) (by omega) (by omega)).2.1,?_⟩
  · obtain ⟨u,hu'⟩:=(k4 (st + j) (by omega) (by omega)).1
    simp [hu']
  · let s1 : AS:={ s with own:=upd s.own t none }
    have hs1 : SRel Γ G s1 w:=h.mono ⟨fun _ _ h=>h,fun t' e' he=>by
      by_cases e : t' = t
      · subst e; simp [s1] at he
      · simpa [s1,upd,e] using he,fun _ _ h=>h⟩
    have hdisj : ∀ t' e' st' en',s1.own t' = some e'→G.tok t' e'≠some (b,st',en'):=by
      intro t' e' st' en' he hc
      by_cases e : t' = t
      · subst e; simp [s1] at he
      · simp [s1,upd,e] at he
        exact e (h.ownInj t' e' t g b st' en' st en he ht hc hk)
    have hfree : ∀ j,st≤j→j < st + us.length→G.ro b j = none:=fun j h1 h2=>(k4 j h1 (by omega)).2.2
    have h1:=hs1.setFree (us:=us) k3 hfree k5 hdisj
    obtain ⟨hle,h2⟩:=h1.claimFree (b:=b) (st:=st) (us:=us) (fun j u hj=>by
      have hjl : j < us.length:=by
        rcases Nat.lt_or_ge j us.length with h | h
        · exact h
        · simp [List.getElem?_eq_none h] at hj
      rw [World.cell?_setCells_in b us st w (fun i hi=>by
        obtain ⟨u,hu'⟩:=(k4 (st + i) (by omega) (by omega)).1
        simp [hu']) j hjl]
      simpa [hjl] using hj) hfree k5 hdisj
    have hg:=h2.gain (t:=t) (e:=g + 1) (b:=b) (st:=st + us.length) (en:=en) (h.ownLast t g ht _ (by omega)) (fun e' he'=>h.ownLast t g ht _ (by omega)) (by omega) k3
      (fun j hj hj'=>by
        obtain ⟨⟨u,q1⟩,q2,q3⟩:=k4 j (by omega) hj'
        refine ⟨⟨u,?_⟩,by rw [World.frozen?_setCells]; exact q2,?_⟩
        · rw [World.cell?_setCells_out b us st w ⟨b,j,none⟩ (fun _ _=>.inr (by simp; omega))]; exact q1
        · simp only [Gh.addRo]; rw [if_neg (by omega)]; exact q3)
      k5 (by
        have hsz : ∀ (us : List Value) (st : Nat) (w : World),(w.setCells b st us).heap.size = w.heap.size:=by
          intro us
          induction us with
          | nil=>intro st w; rfl
          | cons u us ih=>intro st w; rw [World.setCells,ih]; simp
        rw [hsz]; exact k6)
      (fun t' e' st' en' hne ho hc=>hdisj t' e' st' en' ho hc)
      (fun c T lo hi hc=>soft_setCells (K:=Kn G s) us st w h.soft b c T lo hi (.inr ⟨t,g,_,ht,hk⟩) hc)
    refine ⟨_,hle.trans hg.1,?_,(RoAt.added G b st us).mono hg.1,by simp [Gh.addTok]⟩
    have heq : s1.gain t (g + 1) = s.gain t (g + 1):=by
      simp only [AS.gain,s1,AS.mk.injEq,true_and,and_true]
      funext i
      simp only [upd]
      split <;> rfl
    rw [← heq]
    exact hg.2
def asrc (sz : Nat) (s : AS) : AV→Option (Nat × List AV)
  | .sl sz' m ds _=>if sz' = sz then some (m,ds) else none
  | .v (.slice none 0 _)=>some (0,[])
  | .osl o off sz' m _=>if sz' = sz then (match s.objs o with | some cs=>if off + m * sz≤cs.length then some (m,(cs.drop off).take (m * sz)) else none | none=>none) else none
  | .v (.string b)=>if sz = 1 then some (b.size,b.data.toList.map byteV) else none
  | _=>none
theorem asrc_sound {sz m : Nat} {y : AV} {ds : List AV} {u : Value} (h : asrc sz s y = some (m,ds)) (hy : VRel G y u) (hs : SRel Γ G s w) :
    ∃ us,VRels G ds us∧us.length = m * sz∧(∀ w',(Builtin.lenOf u).run P w' = .ok m w')∧(∀ w',(∀ b j,w'.cell? ⟨b,j,none⟩ = w.cell? ⟨b,j,none⟩)→(Builtin.firstCells sz m u).run P w' = .ok us.toArray w'):=by
  unfold asrc at h
  split at h
  · split at h
    · rename_i sz' m' ds' sp hsz
      subst hsz
      cases h
      simp only [VRel] at hy
      rcases hy with ⟨b,off,cap,vs,rfl,hl,_,hv,hro,_⟩ | ⟨rfl,rfl,a,cap,rfl,_⟩ | ⟨rfl,rfl,rfl,rfl⟩
      case inr.inr=>exact ⟨[],by simp [VRels],by simp,fun w'=>rfl,fun w' _=>run_firstCells_none w' _ _ _ _⟩
      case inr.inl=>exact ⟨[],by simp [VRels],by simp,fun w'=>rfl,fun w' _=>run_firstCells_some w' _ _ _ _ _ [] (by simp) (by simp)⟩
      have hlen:=hv.length
      refine ⟨vs,hv,by omega,fun w'=>rfl,fun w' hw'=>?_⟩
      exact run_firstCells_some w' _ _ _ _ _ vs (by omega) (fun j v hj=>by rw [add_spot,hw']; exact hs.ro _ _ _ (hro j v hj))
    · cases h
  · cases h
    simp only [VRel] at hy
    subst hy
    exact ⟨[],by simp [VRels],by simp,fun w'=>rfl,fun w' _=>run_firstCells_none w' _ _ _ _⟩
  · split at h
    · rename_i o off sz' m' cap hsz
      subst hsz
      split at h
      · rename_i cs hc
        split at h
        · rename_i hle
          cases h
          simp only [VRel] at hy
          obtain ⟨b,ho,rfl,_⟩:=hy
          obtain ⟨b',vs,h1,h2,h3,h4⟩:=hs.objs o cs hc
          rw [ho] at h1; cases h1
          have hlen:=h2.length
          have hv:=(h2.drop off).take (m * sz')
          refine ⟨_,hv,by simp; omega,fun w'=>rfl,fun w' hw'=>?_⟩
          refine run_firstCells_some w' _ _ _ _ _ _ (by simp; omega) (fun j v hj=>?_)
          rw [add_spot,hw']
          rw [List.getElem?_take] at hj
          split at hj
          · rw [List.getElem?_drop] at hj
            exact (h4 _ _ hj).1
          · cases hj
        · cases h
      · cases h
    · cases h
  · split at h
    · rename_i b hsz
      subst hsz
      cases h
      simp only [VRel] at hy
      subst hy
      refine ⟨bvals b.data.toList,VRels_bytes _,by have : b.data.size = b.size:=rfl; simp [bvals,this],fun w'=>rfl,fun w' _=>?_⟩
      simp only [Builtin.firstCells,Sem.run_pure]
      congr 1
      have hb : b.extract 0 b.size = b:=by
        apply ByteArray.ext
        simp
      rw [hb]
      apply Array.ext'
      simp [bvals]
    · cases h
  · cases h
def srcOk (P : Program) (t : Option TypeId) : Bool :=
  match t.bind P.underlying with
  | some (.slice _) | some .string=>true
  | _=>false
theorem srcOk_some {x : TypeId} (h : srcOk P (some x) = true) : (∃ e,P.underlying x = some (.slice e))∨P.underlying x = some .string:=by
  unfold srcOk at h
  simp only [Option.bind_some] at h
  cases hu : P.underlying x with
  | none=>simp [hu] at h
  | some d=>cases d <;> simp [hu] at h <;> first | exact .inl ⟨_,rfl⟩ | exact .inr rfl
def ElemOk (P : Program) (e : TypeId) (z : List AV) : Prop:=zcells P e = some z∧P.cellsOf e≠0∧z.length = P.cellsOf e
theorem run_append_new {m : Nat} {u : Value} (hsrc : ∀ w',(Builtin.lenOf u).run P w' = .ok m w') {T xT e : TypeId} (hT : P.underlying T = some (.slice e)) (hx : srcOk P (some xT) = true)
    {z : List AV} (he : ElemOk P e z)
    {base : Option Addr} {n cap : Nat} {olds news : List Value} (hold : ∀ w',(∀ b j,w'.cell? ⟨b,j,none⟩ = w.cell? ⟨b,j,none⟩)→(Builtin.firstCells (P.cellsOf e) n (.slice base n cap)).run P w' = .ok olds.toArray w')
    (hnew : ∀ w',(∀ b j,w'.cell? ⟨b,j,none⟩ = w.cell? ⟨b,j,none⟩)→(Builtin.firstCells (P.cellsOf e) m u).run P w' = .ok news.toArray w')
    (hg : cap < n + m) (hfit : (n + m) * P.bytesOf e≤2 ^ 46) (h63 : n + m≤2 ^ 46) (ty : TypeId) :
    ∃ (cap' : Nat) (rest : List Value),n + m≤cap'∧rest.length = (cap' - (n + m)) * P.cellsOf e ∧
      (Builtin.append_ #[T,xT] ty #[.slice base n cap,u]).run P w = .ok (.slice (some ⟨w.heap.size,0,none⟩) (n + m) cap') (w.drew.alloc (.cells ((olds ++ news) ++ rest).toArray e)):=by
  obtain ⟨hz,hsz,hzl⟩:=he
  obtain ⟨zv,hz1,hz2⟩:=zcells_some hz
  obtain ⟨i,hi⟩:=info_of_cells hsz
  have hb : P.bytesOf e = i.bytes:=by simp [Program.bytesOf,hi]
  have hti : ∀ w',(typeInfo e).run P w' = .ok i w':=fun w'=>by simp [typeInfo,hi]
  have hnle : ¬ (n + m≤cap):=by omega
  have hnot63 : ¬ (9223372036854775807 < (n : Int) + (m : Int)):=by omega
  have hslice:=nextslicecap_le (need:=n + m) (old:=cap) hg
  have hnot48 : ¬ (2 ^ 48 < Builtin.nextslicecap (n + m) cap * i.bytes):=by
    rw [hb] at hfit
    have h2 : Builtin.nextslicecap (n + m) cap * i.bytes≤2 * (n + m) * i.bytes:=Nat.mul_le_mul_right _ hslice
    rw [Nat.mul_assoc] at h2
    omega
  have hzl : zv.cells.size = P.cellsOf e:=by
    rw [hz2] at hzl
    simpa using hzl
  have ho1:=hold w.drew (fun b j=>rfl)
  have hn1:=hnew w.drew (fun b j=>rfl)
  refine ⟨_,(Builtin.zeroCells zv.cells ((Question.appendCap (n + m) cap e).cut (w.tape w.drawn (.appendCap (n + m) cap e)) - (n + m))).toList,cut_appendCap (n + m) cap e (w.tape w.drawn (.appendCap (n + m) cap e)),?_,?_⟩
  · simp [Builtin.zeroCells,hzl]
  · have hf : (Question.appendCap (n + m) cap e).forced = false:=rfl
    rcases srcOk_some hx with ⟨e',hx⟩ | hx
    all_goals
      simp [Builtin.append_,run_underlying hT,run_sizeOf' hsz,run_underlying hx,hsrc,hnle,hti,hnot63,hnot48,hf,ho1,hn1,hz1,newRow]
      congr 2
      apply Array.ext'
      simp [List.append_assoc]
theorem run_append_in {m : Nat} {u : Value} (hsrc : ∀ w',(Builtin.lenOf u).run P w' = .ok m w') {T xT e : TypeId} (hT : P.underlying T = some (.slice e)) (hx : srcOk P (some xT) = true) (hsz : P.cellsOf e≠0)
    {b off n cap : Nat} {news : List Value}
    (hnew : (Builtin.firstCells (P.cellsOf e) m u).run P w = .ok news.toArray w)
    (hc : ∀ j,j < news.length→(w.cell? ⟨b,off + n * P.cellsOf e + j,none⟩).isSome = true) (hf : ∀ j,j < news.length→w.frozen? ⟨b,off + n * P.cellsOf e + j,none⟩ = false) (h1 : ∀ v ∈ news,v.oneCell' = true)
    (hg : n + m≤cap) (ty : TypeId) :
    (Builtin.append_ #[T,xT] ty #[.slice (some ⟨b,off,none⟩) n cap,u]).run P w = .ok (.slice (some ⟨b,off,none⟩) (n + m) cap) (w.setCells b (off + n * P.cellsOf e) news):=by
  have hst:=run_storeCells_cells (P:=P) b (off + n * P.cellsOf e) news 0 w (by simpa using hc) (by simpa using hf) h1
  simp only [Nat.add_zero] at hst
  rcases srcOk_some hx with ⟨e',hx⟩ | hx
  all_goals
    simp [Builtin.append_,run_underlying hT,run_sizeOf' hsz,run_underlying hx,hsrc,hg,hnew,add_spot,hst]
theorem run_append_zero {u : Value} (hsrc : ∀ w',(Builtin.lenOf u).run P w' = .ok 0 w') {T xT e : TypeId} (hT : P.underlying T = some (.slice e)) (hx : srcOk P (some xT) = true) (hsz : P.cellsOf e≠0)
    {base : Option Addr} {n cap : Nat} (hnew : (Builtin.firstCells (P.cellsOf e) 0 u).run P w = .ok #[] w) (hg : n≤cap) (ty : TypeId) :
    (Builtin.append_ #[T,xT] ty #[.slice base n cap,u]).run P w = .ok (.slice base n cap) w:=by
  rcases srcOk_some hx with ⟨e',hx⟩ | hx
  all_goals
    cases base <;> simp [Builtin.append_,run_underlying hT,run_sizeOf' hsz,run_underlying hx,hsrc,hg,hnew,storeCells]
theorem one_of_all : ∀ {ds : List AV} {us : List Value},VRels G ds us→ds.all AV.one = true→∀ u ∈ us,u.oneCell' = true
  | [],us,h,_=>by simp only [VRels] at h; subst h; simp
  | d :: ds,us,h,ha=>by
    simp only [VRels] at h
    obtain ⟨u,us',rfl,h2,h3⟩:=h
    simp only [List.all_cons,Bool.and_eq_true] at ha
    intro x hx
    rcases List.mem_cons.1 hx with rfl | hx
    · have h1:=ha.1
      cases d with
      | v y=>simp only [VRel] at h2; subst h2; cases x <;> simp [AV.one] at h1 <;> rfl
      | sl sz n cs sp=>simp only [VRel] at h2; rcases h2 with ⟨b,off,cap,vs,rfl,_⟩ | ⟨_,_,a,cap,rfl,_⟩ | ⟨_,_,_,rfl⟩ <;> rfl
      | rop cs=>simp only [VRel] at h2; obtain ⟨b,off,vs,rfl,_⟩:=h2; rfl
      | ptr o off=>simp only [VRel] at h2; obtain ⟨b,_,rfl⟩:=h2; rfl
      | osl o off sz n cap=>simp only [VRel] at h2; obtain ⟨b,_,rfl,_⟩:=h2; rfl
      | agg cs=>simp [AV.one] at h1
      | tup cs=>simp [AV.one] at h1
      | clo f cs=>simp only [VRel] at h2; obtain ⟨vs,rfl,_⟩:=h2; rfl
    · exact one_of_all h3 ha.2 x hx
def aappend (P : Program) (e : TypeId) (x : AV) (m : Nat) (ds : List AV) (s : AS) (K : AV→AS→Prop) : Prop :=
  match x with
  | .v (.slice none 0 0) =>
    if m = 0 then K (.v (.slice none 0 0)) s
    else m * P.bytesOf e≤2 ^ 46∧m≤2 ^ 46∧∀ t,s.own t = none→K (.sl (P.cellsOf e) m ds (.own t 0)) (s.gain t 0)
  | .sl sz n cs sp =>
    if m = 0 then K (.sl sz n cs sp) s
    else sz = P.cellsOf e∧(n + m) * P.bytesOf e≤2 ^ 46∧n + m≤2 ^ 46∧ds.all AV.one = true ∧
      match sp with
      | .full=>∀ t,s.own t = none→K (.sl sz (n + m) (cs ++ ds) (.own t 0)) (s.gain t 0)
      | .new=>∀ t,s.own t = none→K (.sl sz (n + m) (cs ++ ds) (.own t 0)) (s.gain t 0)
      | .own t g=>s.own t = some g∧K (.sl sz (n + m) (cs ++ ds) (.own t (g + 1))) (s.gain t (g + 1))
      | .no=>False
      | .any=>False
  | _=>False
theorem aappend_sound {x y : AV} {u v : Value} {m : Nat} {ds : List AV} {T xT e : TypeId} {z : List AV} {K : AV→AS→Prop} (hT : P.underlying T = some (.slice e)) (hx : srcOk P (some xT) = true) (he : ElemOk P e z)
    (hsrc : asrc (P.cellsOf e) s y = some (m,ds)) (h : aappend P e x m ds s K) (hxr : VRel G x u) (hyr : VRel G y v) (hs : SRel Γ G s w) (ty : TypeId) :
    ∃ G' z w' r s',(Builtin.append_ #[T,xT] ty #[u,v]).run P w = .ok z w'∧G.le G'∧SRel Γ G' s' w'∧VRel G' r z∧K r s':=by
  obtain ⟨us,hv,hlen,hlenOf,hfirst⟩:=asrc_sound (P:=P) hsrc hyr hs
  have hdl:=hv.length
  unfold aappend at h
  split at h
  · -- onto nil
    simp only [VRel] at hxr
    subst hxr
    split at h
    · rename_i hm
      subst hm
      have hus : us = []:=List.eq_nil_of_length_eq_zero (by simpa using hlen)
      subst hus
      exact ⟨G,_,w,_,s,run_append_zero hlenOf hT hx he.2.1 (hfirst w (fun _ _=>rfl)) (Nat.le_refl _) ty,.refl G,hs,by simp [VRel],h⟩
    · rename_i hm
      obtain ⟨h1,h2,h3⟩:=h
      obtain ⟨cap',rest,hc1,hc2,hrun⟩:=run_append_new (P:=P) (w:=w) hlenOf hT hx he (base:=none) (n:=0) (cap:=0) (olds:=[]) (news:=us)
        (fun w' _=>run_firstCells_none w' _ _ _ _) hfirst (by omega) (by simpa using h1) (by simpa using h2) ty
      simp only [Nat.zero_add] at hc1 hc2 hrun
      obtain ⟨G',g1,g2,g3,g4,g5,g6⟩:=hs.drew.newRoTok us rest e G.nt 0 (fun e' _=>hs.freshT _ (Nat.le_refl _) e')
      refine ⟨G',_,_,_,_,hrun,g1,g2,?_,h3 G.nt (hs.own_isNone (Nat.le_refl _))⟩
      simp only [VRel]
      refine .inl ⟨w.heap.size,0,cap',us,rfl,by omega,hc1,VRels.mono g1 _ _ hv,g3,?_⟩
      simp only [SpRel]
      rw [g4]
      simp only [List.length_append,hlen,hc2,Nat.zero_add]
      rw [← Nat.add_mul,Nat.add_sub_cancel' hc1]
      rfl
  · -- onto a slice
    rename_i sz n cs sp
    have hxr':=hxr
    simp only [VRel] at hxr
    rcases hxr with ⟨b,off,cap,vs,rfl,hl,hnc,hvs,hro,hsp⟩ | ⟨rfl,rfl,a,cap,rfl,hmere⟩ | ⟨rfl,rfl,rfl,rfl⟩
    case inr.inr =>
      split at h
      · rename_i hm
        subst hm
        have hus : us = []:=List.eq_nil_of_length_eq_zero (by simpa using hlen)
        subst hus
        exact ⟨G,_,w,_,s,run_append_zero hlenOf hT hx he.2.1 (hfirst w (fun _ _=>rfl)) (Nat.le_refl _) ty,.refl G,hs,hxr',h⟩
      · obtain ⟨rfl,h1,h2,hone,h3⟩:=h
        exact h3.elim
    case inr.inl =>
      split at h
      · rename_i hm
        subst hm
        have hus : us = []:=List.eq_nil_of_length_eq_zero (by simpa using hlen)
        subst hus
        exact ⟨G,_,w,_,s,run_append_zero hlenOf hT hx he.2.1 (hfirst w (fun _ _=>rfl)) (Nat.zero_le _) ty,.refl G,hs,hxr',h⟩
      · rename_i hm
        obtain ⟨rfl,h1,h2,hone,h3⟩:=h
        rcases hmere with rfl | rfl | ⟨rfl,rfl⟩
        · exact h3.elim
        · exact h3.elim
        ·
          obtain ⟨cap',rest,hc1,hc2,hrun⟩:=run_append_new (P:=P) (w:=w) hlenOf hT hx he (base:=some a) (n:=0) (cap:=0) (olds:=[]) (news:=us)
            (fun w' _=>run_firstCells_some w' _ _ _ _ _ [] (by simp) (by simp)) hfirst (by omega) h1 h2 ty
          simp only [Nat.zero_add] at hc1 hc2 hrun h3
          obtain ⟨G',g1,g2,g3,g4,g5,g6⟩:=hs.drew.newRoTok us rest e G.nt 0 (fun e' _=>hs.freshT _ (Nat.le_refl _) e')
          refine ⟨G',_,_,_,_,hrun,g1,g2,?_,h3 G.nt (hs.own_isNone (Nat.le_refl _))⟩
          simp only [VRel]
          refine .inl ⟨w.heap.size,0,cap',us,rfl,by simp only [List.nil_append]; omega,hc1,VRels.mono g1 _ _ hv,g3,?_⟩
          simp only [SpRel]
          rw [g4]
          simp only [List.length_append,hlen,hc2,Nat.zero_add]
          rw [← Nat.add_mul,Nat.add_sub_cancel' hc1]
          rfl
    have hvl:=hvs.length
    split at h
    · rename_i hm
      subst hm
      have hus : us = []:=List.eq_nil_of_length_eq_zero (by simpa using hlen)
      subst hus
      exact ⟨G,_,w,_,s,run_append_zero hlenOf hT hx he.2.1 (hfirst w (fun _ _=>rfl)) hnc ty,.refl G,hs,hxr',h⟩
    · rename_i hm
      obtain ⟨rfl,h1,h2,hone,h3⟩:=h
      have hold : ∀ w',(∀ b j,w'.cell? ⟨b,j,none⟩ = w.cell? ⟨b,j,none⟩)→(Builtin.firstCells (P.cellsOf e) n (.slice (some ⟨b,off,none⟩) n cap)).run P w' = .ok vs.toArray w' :=
        fun w' hw'=>run_firstCells_some w' _ _ _ _ _ vs (by omega) (fun j v hj=>by rw [add_spot,hw']; exact hs.ro _ _ _ (hro j v hj))
      have grow : ∀ (t g : Nat),cap < n + m→(∀ e',g≤e'→G.tok t e' = none) →
          ∃ G' z w',(Builtin.append_ #[T,xT] ty #[.slice (some ⟨b,off,none⟩) n cap,v]).run P w = .ok z w'∧G.le G'∧SRel Γ G' (s.gain t g) w'∧VRel G' (.sl (P.cellsOf e) (n + m) (cs ++ ds) (.own t g)) z:=by
        intro t g hlt ht
        obtain ⟨cap',rest,hc1,hc2,hrun⟩:=run_append_new (P:=P) (w:=w) hlenOf hT hx he (base:=some ⟨b,off,none⟩) (n:=n) (cap:=cap) (olds:=vs) (news:=us) hold hfirst hlt h1 h2 ty
        obtain ⟨G',g1,g2,g3,g4,g5,g6⟩:=hs.drew.newRoTok (vs ++ us) rest e t g ht
        refine ⟨G',_,_,hrun,g1,g2,?_⟩
        simp only [VRel]
        refine .inl ⟨w.heap.size,0,cap',vs ++ us,rfl,by simp only [List.length_append,hl,hdl,hlen,Nat.add_mul],hc1,VRels.mono g1 _ _ (hvs.append hv),g3,?_⟩
        simp only [SpRel]
        rw [g4]
        have e1 : (vs ++ us).length = (n + m) * P.cellsOf e:=by simp only [List.length_append,← hvl,hl,hlen,Nat.add_mul]
        rw [List.length_append (as:=vs ++ us),e1,hc2,Nat.zero_add,Nat.zero_add,← Nat.add_mul,Nat.add_sub_cancel' hc1]
        rfl
      split at h3
      · -- no room
        simp only [SpRel] at hsp
        subst hsp
        obtain ⟨G',z,w',q1,q2,q3,q4⟩:=grow G.nt 0 (by omega) (fun e' _=>hs.freshT _ (Nat.le_refl _) e')
        exact ⟨G',z,w',_,_,q1,q2,q3,q4,h3 G.nt (hs.own_isNone (Nat.le_refl _))⟩
      · -- a literal: no room
        simp only [SpRel] at hsp
        obtain ⟨hsp,-⟩:=hsp
        subst hsp
        obtain ⟨G',z,w',q1,q2,q3,q4⟩:=grow G.nt 0 (by omega) (fun e' _=>hs.freshT _ (Nat.le_refl _) e')
        exact ⟨G',z,w',_,_,q1,q2,q3,q4,h3 G.nt (hs.own_isNone (Nat.le_refl _))⟩
      · rename_i t g
        obtain ⟨ht,hK⟩:=h3
        simp only [SpRel] at hsp
        rcases Nat.lt_or_ge cap (n + m) with hlt | hge
        · obtain ⟨G',z,w',q1,q2,q3,q4⟩:=grow t (g + 1) hlt (fun e' he'=>hs.ownLast t g ht e' (by omega))
          exact ⟨G',z,w',_,_,q1,q2,q3,q4,hK⟩
        · have hfits : off + n * P.cellsOf e + us.length≤off + cap * P.cellsOf e:=by
            rw [hlen,Nat.add_assoc,← Nat.add_mul]
            exact Nat.add_le_add_left (Nat.mul_le_mul_right _ hge) _
          obtain ⟨f1,f2,G',g1,g2,g3,g4⟩:=hs.fill ht hsp hfits
          refine ⟨G',_,_,_,_,run_append_in hlenOf hT hx he.2.1 (hfirst w (fun _ _=>rfl)) f1 f2 (one_of_all hv hone) hge ty,g1,g2,?_,hK⟩
          simp only [VRel]
          refine .inl ⟨b,off,cap,vs ++ us,rfl,by simp only [List.length_append,hl,hdl,hlen,Nat.add_mul],hge,VRels.mono g1 _ _ (hvs.append hv),?_,?_⟩
          · intro j x hj
            rcases Nat.lt_or_ge j vs.length with hjl | hjl
            · rw [List.getElem?_append_left hjl] at hj
              exact g1.ro _ _ _ (hro j x hj)
            · rw [List.getElem?_append_right hjl] at hj
              have:=g3 (j - vs.length) x hj
              rwa [show off + n * P.cellsOf e + (j - vs.length) = off + j from by rw [← hl,hvl]; omega] at this
          · simp only [SpRel]
            rw [g4,hlen,Nat.add_assoc,← Nat.add_mul]
      · exact h3.elim
      · exact h3.elim
  · exact h.elim
theorem run_append_noughts {n : Nat} {T xT xS e : TypeId} {k : IntKind} (hT : P.underlying T = some (.slice e)) (hx : P.underlying xT = some (.int k)) (hS : P.underlying xS = some .string)
    (hz : zcells P e = some [.v (.int .u8 0)]) (hc : P.cellsOf e = 1) (hb : P.bytesOf e = 1) (hn : n≤2 ^ 45) {base : Option Addr} {m cap : Nat} (hm : m≤2 ^ 45) (ty : TypeId) :
    (Builtin.append_ #[T,xT] ty #[.slice base m cap,.int .i64 n]).run P w = (Builtin.append_ #[T,xS] ty #[.slice base m cap,.string ⟨(List.replicate n (0 : UInt8)).toArray⟩]).run P w:=by
  have hsz : P.cellsOf e≠0:=by omega
  obtain ⟨zv,hz1,hz2⟩:=zcells_some hz
  obtain ⟨i,hi⟩:=info_of_cells hsz
  have hb2 : i.bytes = 1:=by rw [← hb]; simp [Program.bytesOf,hi]
  have hti : ∀ w',(typeInfo e).run P w' = .ok i w':=fun w'=>by simp [typeInfo,hi]
  have hw : IntKind.i64.wrap (n : Int) = n:=IntWalk.i64_in _ (by omega)
  have hneg : ¬ ((n : Int) < 0):=by omega
  have hbig : ¬ ((281474976710656 : Int) < (n : Int)):=by omega
  have hsn : (⟨(List.replicate n (0 : UInt8)).toArray⟩ : ByteArray).size = n:=by simp [ByteArray.size]
  have hzc : zv.cells = #[.int .u8 0]:=by
    have : zv.cells.toList.map AV.v = [AV.v (.int .u8 0)]:=by rw [← hz2]
    cases h : zv.cells.toList with
    | nil=>rw [h] at this; simp at this
    | cons a t =>
      rw [h] at this
      simp at this
      obtain ⟨h1,h2⟩:=this
      subst h1 h2
      apply Array.ext'
      simpa using h
  have hfc : ((⟨(List.replicate n (0 : UInt8)).toArray⟩ : ByteArray).extract 0 n).data.map (fun b=>Value.int .u8 b.toNat) = Builtin.zeroCells zv.cells n:=by
    have e : (⟨(List.replicate n (0 : UInt8)).toArray⟩ : ByteArray).extract 0 n = ⟨(List.replicate n (0 : UInt8)).toArray⟩:=by
      apply ByteArray.ext
      simp
    rw [hzc,e]
    apply Array.ext'
    simp only [Builtin.zeroCells]
    apply List.ext_getElem?
    intro j
    by_cases hj : j < n
    · simp [hj,List.getElem?_replicate,Nat.mod_one]
    · simp [hj,List.getElem?_replicate]
  generalize (⟨(List.replicate n (0 : UInt8)).toArray⟩ : ByteArray) = bb at hsn hfc ⊢
  have hnot63 : ¬ (9223372036854775807 < (m : Int) + (n : Int)):=by omega
  by_cases hg : m + n≤cap
  · by_cases h0 : n = 0
    · subst h0
      have hw0 : IntKind.i64.wrap 0 = 0:=by decide
      have hz0 : Builtin.zeroCells zv.cells 0 = #[]:=by simp [Builtin.zeroCells]
      simp at hg hnot63 
      simp [hw0,hz0,Builtin.append_,run_underlying hT,run_sizeOf' hsz,run_underlying hx,run_underlying hS,asInt,asIntOf,hw,hneg,hti,hbig,hg,hb2,hc,hz1,Builtin.firstCells,Builtin.lenOf,hsn]
    · simp [Builtin.append_,run_underlying hT,run_sizeOf' hsz,run_underlying hx,run_underlying hS,asInt,asIntOf,hw,hneg,hti,hbig,hg,hb2,hc,hz1,Builtin.firstCells,Builtin.lenOf,hsn,h0,← hfc]
  · have hslice:=nextslicecap_le (need:=m + n) (old:=cap) (by omega)
    have hnot48 : ¬ (2 ^ 48 < Builtin.nextslicecap (m + n) cap):=by omega
    by_cases h0 : n = 0
    · subst h0
      have hw0 : IntKind.i64.wrap 0 = 0:=by decide
      have hz0 : Builtin.zeroCells zv.cells 0 = #[]:=by simp [Builtin.zeroCells]
      have hg1 : ¬ m≤cap:=by omega
      have hn63 : ¬ (9223372036854775807 < (m : Int)):=by omega
      have hn48 : ¬ (281474976710656 < Builtin.nextslicecap m cap):=by simpa using hnot48
      simp [hg1,hn63,hn48,hw0,hz0,Builtin.append_,run_underlying hT,run_sizeOf' hsz,run_underlying hx,run_underlying hS,asInt,asIntOf,hw,hneg,hti,hbig,hg,hb2,hc,hz1,Builtin.firstCells,Builtin.lenOf,hsn,hnot48,hnot63]
    · simp [Builtin.append_,run_underlying hT,run_sizeOf' hsz,run_underlying hx,run_underlying hS,asInt,asIntOf,hw,hneg,hti,hbig,hg,hb2,hc,hz1,Builtin.firstCells,Builtin.lenOf,hsn,h0,hnot48,hnot63,← hfc]
def amade (P : Program) (e xT : TypeId) (x y : AV) (s : AS) (K : AV→AS→Prop) : Prop :=
  ∃ (n : Nat) (xS : TypeId) (k : IntKind) (sz m : Nat) (cs : List AV) (sp : Sp),y = .v (.int .i64 n)∧x = .sl sz m cs sp∧P.underlying xT = some (.int k)∧P.underlying xS = some .string ∧
    zcells P e = some [.v (.int .u8 0)]∧P.cellsOf e = 1∧P.bytesOf e = 1∧n≤2 ^ 45∧m≤2 ^ 45∧aappend P e x n (List.replicate n (byteV 0)) s K
theorem amade_sound {x y : AV} {u v : Value} {T xT e : TypeId} {K : AV→AS→Prop} (hT : P.underlying T = some (.slice e)) (h : amade P e xT x y s K) (hxr : VRel G x u) (hyr : VRel G y v) (hs : SRel Γ G s w) (ty : TypeId) :
    ∃ G' z w' r s',(Builtin.append_ #[T,xT] ty #[u,v]).run P w = .ok z w'∧G.le G'∧SRel Γ G' s' w'∧VRel G' r z∧K r s':=by
  obtain ⟨n,xS,k,sz,m,cs,sp,rfl,rfl,hx,hS,hz,hc,hb,hn,hm,ha⟩:=h
  simp only [VRel] at hyr
  subst hyr
  have hbase : ∃ base cap,u = .slice base m cap:=by
    have h:=hxr
    simp only [VRel] at h
    rcases h with ⟨b,off,cap,vs,rfl,_⟩ | ⟨rfl,_,a,cap,rfl,_⟩ | ⟨rfl,_,_,rfl⟩
    · exact ⟨_,_,rfl⟩
    · exact ⟨_,_,rfl⟩
    · exact ⟨_,_,rfl⟩
  obtain ⟨base,cap,rfl⟩:=hbase
  rw [run_append_noughts hT hx hS hz hc hb hn hm ty]
  have hsrc : asrc (P.cellsOf e) s (.v (.string ⟨(List.replicate n (0 : UInt8)).toArray⟩)) = some (n,List.replicate n (byteV 0)):=by
    rw [hc]
    simp only [asrc,if_true]
    congr 1
    have e1 : (⟨(List.replicate n (0 : UInt8)).toArray⟩ : ByteArray).size = n:=by simp [ByteArray.size]
    rw [e1]
    simp
  exact aappend_sound (y:=.v (.string ⟨(List.replicate n (0 : UInt8)).toArray⟩)) hT (by unfold srcOk; simp [hS]) ⟨hz,by omega,by rw [hc]; rfl⟩ hsrc ha hxr rfl hs ty
end Go.AM
namespace Go.AM
open Go Go.RowKit
variable {P : Program} {Γ : Nat→List AV} {G : Gh} {s : AS} {w : World}
def ACalls (P : Program) (Γ : Nat→List AV) (f : FuncId) (args : List AV) (s : AS) (Post : AV→AS→Prop) : Prop :=
  ∀ (G : Gh) (w : World) (vs : List Value),SRel Γ G s w→VRels G args vs →
    Calls P f vs.toArray w fun e w'=>∃ G' r v s',e = .returned v∧G.le G'∧SRel Γ G' s' w'∧VRel G' r v∧Post r s'
theorem ACalls.mono {f : FuncId} {args : List AV} {s : AS} {Q R : AV→AS→Prop} (h : ACalls P Γ f args s Q) (k : ∀ r s',Q r s'→R r s') : ACalls P Γ f args s R :=
  fun G w vs hs hv=>(h G w vs hs hv).mono fun _ _ ⟨G',r,v,s',h1,h2,h3,h4,h5⟩=>⟨G',r,v,s',h1,h2,h3,h4,k r s' h5⟩
def AV.weak (a b : AV) : Prop:=∀ G v,VRel G a v→VRel G b v
theorem AV.weak.refl (a : AV) : a.weak a:=fun _ _ h=>h
theorem AV.weak_any {sz n : Nat} {cs : List AV} {sp : Sp} : (AV.sl sz n cs sp).weak (.sl sz n cs .any):=by
  intro G v h
  simp only [VRel] at h ⊢
  rcases h with ⟨b,off,cap,vs,h1,h2,h3,h4,h5,_⟩ | ⟨h1,h2,a,cap,h3,_⟩ | ⟨h1,h2,_,h3⟩
  · exact .inl ⟨b,off,cap,vs,h1,h2,h3,h4,h5,trivial⟩
  · exact .inr (.inl ⟨h1,h2,a,cap,h3,by simp⟩)
  · exact .inr (.inr ⟨h1,h2,by simp,h3⟩)
theorem AV.weak_nil {sz : Nat} : (AV.v (.slice none 0 0)).weak (.sl sz 0 [] .any):=by
  intro G v h
  simp only [VRel] at h ⊢
  exact .inr (.inr ⟨by simp,by simp,by simp,h⟩)
theorem VRel.any {G : Gh} {sz n : Nat} {cs : List AV} {v : Value} (h : VRel G (.sl sz n cs .any) v) : (n = 0∧cs = []∧VRel G (.v (.slice none 0 0)) v)∨VRel G (.sl sz n cs .no) v:=by
  simp only [VRel] at h ⊢
  rcases h with ⟨b,off,cap,vs,h1,h2,h3,h4,h5,_⟩ | ⟨h1,h2,a,cap,h3,_⟩ | ⟨h1,h2,_,h3⟩
  · exact .inr (.inl ⟨b,off,cap,vs,h1,h2,h3,h4,h5,trivial⟩)
  · exact .inr (.inr (.inl ⟨h1,h2,a,cap,h3,by simp⟩))
  · exact .inl ⟨h1,h2,h3⟩
theorem AS.le.refl (s : AS) : s.le s:=⟨fun _ _ h=>h,fun _ _ h=>h,fun _ _ h=>h⟩
theorem AS.le.trans {a b c : AS} (h : a.le b) (k : b.le c) : a.le c:=⟨fun o cs x=>k.objs o cs (h.objs o cs x),fun t e x=>k.own t e (h.own t e x),fun b l x=>k.maps b l (h.maps b l x)⟩
theorem AS.le_set {s s' : AS} (h : s.le s') {o : Nat} (ho : s.objs o = none) (cs : List AV) : s.le (s'.set o cs):=by
  refine ⟨fun o' cs' hc=>?_,h.own,h.maps⟩
  by_cases e : o' = o
  · subst e; rw [ho] at hc; cases hc
  · simp [AS.set,upd,e]; exact h.objs o' cs' hc
theorem AS.le_gain {s s' : AS} (h : s.le s') {t : Nat} (ht : s.own t = none) (g : Nat) : s.le (s'.gain t g):=by
  refine ⟨h.objs,fun t' e' he=>?_,h.maps⟩
  by_cases e : t' = t
  · subst e; rw [ht] at he; cases he
  · simp [AS.gain,upd,e]; exact h.own t' e' he
theorem AS.le_drop {s s' : AS} (h : s.le s') {o : Nat} (ho : s.objs o = none) : s.le (s'.drop o):=by
  refine ⟨fun o' cs' hc=>?_,h.own,h.maps⟩
  by_cases e : o' = o
  · subst e; rw [ho] at hc; cases hc
  · simp [AS.drop,upd,e]; exact h.objs o' cs' hc
def callable (P : Program) (k : FuncId) : Bool :=
  match P.funcs[k]? with
  | some fn=>fn.name != "runtime.NumGoroutine" && fn.body.isSome
  | none=>false
def AS.putM (s : AS) (b : Nat) (m : MO) : AS:={ s with maps:=upd s.maps b (some m) }
def AS.setMap (s : AS) (b : Nat) (l : List (Value × AV)) : AS:=s.putM b (.map l)
def aiter : AV→Option Nat
  | .v (.pointer (some ⟨r,0,none⟩))=>some r
  | _=>none
def azero (P : Program) (t : TypeId) : Option Value:=(P.info? t).bind (·.zero)
def amOf : AV→Option Nat
  | .v (.map r)=>r
  | _=>none
def avOf : AV→Option Value
  | .v k=>some k
  | _=>none
theorem amOf_some {x : AV} {b : Nat} (h : amOf x = some b) : x = .v (.map (some b)):=by
  unfold amOf at h
  split at h
  · rw [h]
  · cases h
theorem avOf_some {x : AV} {k : Value} (h : avOf x = some k) : x = .v k:=by
  unfold avOf at h
  split at h
  · cases h; rfl
  · cases h
def keyPlain : TypeDesc→Value→Bool
  | .int k,.int k' _=>decide (k' = k)
  | .string,.string _=>true
  | _,_=>false
def amFind (d : TypeDesc) (k : Value) : List (Value × AV)→Option (Option AV)
  | []=>some none
  | (k',v) :: l =>
    match Instr.sameNow d k k' with
    | some true=>some (some v)
    | some false=>amFind d k l
    | none=>none
def amSet (d : TypeDesc) (k : Value) (v : AV) : List (Value × AV)→Option (List (Value × AV))
  | []=>some [(k,v)]
  | (k',x) :: l =>
    match Instr.sameNow d k k' with
    | some true=>some ((k',v) :: l)
    | some false=>(amSet d k v l).map fun r=>(k',x) :: r
    | none=>none
def aeff (P : Program) (Γ : Nat→List AV) (ρ : Operand→AV) (s : AS) (K : AV→AS→Prop) : Op→Prop
  | .load T x =>
    match ρ x with
    | .ptr o off =>
      match s.objs o with
      | some cs=>P.cellsOf T≠0∧(match aload P T (cs.drop off) with | some v=>K v s | none=>False)
      | none=>False
    | _=>False
  | .store T a x =>
    match ρ a with
    | .ptr o off =>
      match s.objs o with
      | some cs=>P.cellsOf T≠0∧(ρ x).cells.length = P.cellsOf T∧off + (ρ x).cells.length≤cs.length∧(ρ x).cells.all AV.one = true∧K (.v undef) (s.set o (asetAll cs off (ρ x).cells))
      | none=>False
    | _=>False
  | .alloc T=>match zcells P T with | some z=>∀ o,s.objs o = none→K (.ptr o 0) (s.set o z) | none=>False
  | .box _ x=>∀ o,s.objs o = none→K (.ptr o 0) (s.set o (ρ x).cells)
  | .makeSlice T l c =>
    match P.underlying T,ρ l,ρ c with
    | some (.slice e),.v (.int _ n),.v (.int _ m) =>
      match zcells P e with
      | some z=>0≤n∧m = n∧P.bytesOf e * n≤2 ^ 46∧n≤2 ^ 46∧P.cellsOf e≠0∧z.length = P.cellsOf e ∧
          ∀ o,s.objs o = none→K (.osl o 0 (P.cellsOf e) n.toNat n.toNat) (s.set o (zrow (n.toNat * P.cellsOf e) z))
      | none=>False
    | _,_,_=>False
  | .makeMap _ none=>∀ b,s.maps b = none→K (.v (.map (some b))) (s.setMap b [])
  | .lookup T m k ok =>
    match P.underlying T with
    | some (.map kt et) =>
      match amOf (ρ m),avOf (ρ k) with
      | some b,some kv =>
        match P.underlying kt,(s.maps b).bind MO.list,azero P et with
        | some d,some l,some z=>keyPlain d kv = true∧(match amFind d kv l with
          | some (some v)=>K (if ok = true then .tup [v,.v (.bool true)] else v) s
          | some none=>K (if ok = true then .tup [.v z,.v (.bool false)] else .v z) s
          | none=>False)
        | _,_,_=>False
      | _,_=>False
    | _=>False
  | .mapUpdate T m k v =>
    match P.underlying T with
    | some (.map kt _) =>
      match amOf (ρ m),avOf (ρ k) with
      | some b,some kv =>
        match P.underlying kt,s.maps b with
        | some d,some (.map l)=>keyPlain d kv = true∧(match amSet d kv (ρ v) l with
          | some l'=>K (.v undef) (s.setMap b l')
          | none=>False)
        | _,_=>False
      | _,_=>False
    | _=>False
  | .range T x =>
    match P.underlying T,amOf (ρ x) with
    | some (.map _ _),some b=>match s.maps b with
      | some (.map l)=>∀ es c r,s.maps r = none→K (.v (.pointer (some ⟨r,0,none⟩))) ((s.putM b (.fix l es c)).putM r (.iter b es c l none))
      | _=>False
    | _,_=>False
  | .next x false =>
    match aiter (ρ x) with
    | some r=>match s.maps r with
      | some (.iter b es c left _)=>∃ l,s.maps b = some (.fix l es c)∧(left = []→K (.tup [.v (.bool false)]) s) ∧
          ∀ i,(h : i < left.length)→K (.tup [.v (.bool true),.v left[i].1,left[i].2]) (s.putM r (.iter b es c (left.eraseIdx i) (some left[i])))
      | _=>False
    | none=>False
  | .entry x =>
    match aiter (ρ x) with
    | some r=>match s.maps r with
      | some (.iter b es c _ (some (k,v)))=>∃ l,s.maps b = some (.fix l es c)∧K (.tup [.v k,v]) s
      | _=>False
    | none=>False
  | .call { callee:=.builtin .append,args,argTypes } =>
    match args.toList,argTypes.toList with
    | [x,y],[T,xT] =>
      match P.underlying T with
      | some (.slice e) =>
        match zcells P e,asrc (P.cellsOf e) s (ρ y) with
        | some z,some (m,ds)=>srcOk P (some xT) = true∧P.cellsOf e≠0∧z.length = P.cellsOf e∧aappend P e (ρ x) m ds s K
        | _,_=>amade P e xT (ρ x) (ρ y) s K
      | _=>False
    | _,_=>False
  | .call { callee:=.builtin .copy,args,argTypes } =>
    match args.toList,argTypes.toList with
    | [x,y],[T,_] =>
      match P.underlying T with
      | some (.slice e) =>
        match asrc (P.cellsOf e) s (ρ y),ρ x with
        | some (m,ds),.osl o off _ n _ =>
          match s.objs o with
          | some cs=>P.cellsOf e≠0∧ds.all AV.one = true∧off + min m n * P.cellsOf e≤cs.length ∧
              K (.v (.int .i64 ((min m n : Nat) : Int))) (s.set o (asetAll cs off (ds.take (min m n * P.cellsOf e))))
          | none=>False
        | _,_=>False
      | _=>False
    | _,_=>False
  | .call { callee:=.builtin .len,args,argTypes } =>
    match args.toList,argTypes.toList with
    | [x],[T] =>
      match P.underlying T,amOf (ρ x) with
      | some (.map _ _),some b =>
        match (s.maps b).bind MO.list with
        | some l=>K (.v (.int .i64 l.length)) s
        | none=>False
      | _,_=>False
    | _,_=>False
  | .call { callee:=.value f,args,.. } =>
    match ρ f with
    | .v (.func (.func k) first caps)=>first.isEmpty = true∧caps.isEmpty = true∧callable P k = true∧ACalls P Γ k (args.toList.map ρ) s K
    | .clo k caps=>callable P k = true∧ACalls P Γ k (args.toList.map ρ ++ caps) s K
    | _=>False
  | _=>False
def astep (P : Program) (Γ : Nat→List AV) (ρ : Operand→AV) (s : AS) (K : AV→AS→Prop) (op : Op) : Prop :=
  match aval P ρ op with
  | some r=>K r s
  | none=>aeff P Γ ρ s K op
def OpRes (P : Program) (Γ : Nat→List AV) (G : Gh) (K : AV→AS→Prop) : Result Next→Prop
  | .ok (.value v) w'=>∃ G' r s',G.le G'∧SRel Γ G' s' w'∧VRel G' r v∧K r s'
  | .ok .skip w'=>∃ G' s',G.le G'∧SRel Γ G' s' w'∧K (.v undef) s'
  | .ok (.enter f args) w'=>Calls P f args w' fun e w''=>∃ G' r v s',e = .returned v∧G.le G'∧SRel Γ G' s' w''∧VRel G' r v∧K r s'
  | _=>False
theorem run_callFunc {k : FuncId} (h : callable P k = true) (args : Array Value) : (callFunc k args).run P w = .ok (.enter k args) w:=by
  unfold callable at h
  split at h
  · rename_i fn hf
    simp only [Bool.and_eq_true,bne_iff_ne,ne_eq] at h
    obtain ⟨h1,h2⟩:=h
    have h3 : fn.body.isNone = false:=by cases hb : fn.body <;> simp [hb] at h2 ⊢
    have h4 : fn.body≠none:=by intro e; simp [e] at h2
    simp [callFunc,hf,h1,h4]
  · cases h
theorem setCells_obj (h : SRel Γ G s w) {o b off : Nat} {cs ds : List AV} {us : List Value} (ho : s.objs o = some cs) (hb : G.obj o = some b) (hle : off + ds.length≤cs.length) (hd : VRels G ds us) :
    (∀ j,j < us.length→(w.cell? ⟨b,off + j,none⟩).isSome = true)∧(∀ j,j < us.length→w.frozen? ⟨b,off + j,none⟩ = false) ∧
      SRel Γ G (s.set o (asetAll cs off ds)) (w.setCells b off us):=by
  have hdl:=hd.length
  have hfirst : (∀ j,j < us.length→(w.cell? ⟨b,off + j,none⟩).isSome = true)∧(∀ j,j < us.length→w.frozen? ⟨b,off + j,none⟩ = false):=by
    obtain ⟨b',vs,h1,h2,h3,h4⟩:=h.objs o cs ho
    rw [hb] at h1; cases h1
    have hl:=h2.length
    refine ⟨fun j hj=>?_,fun j hj=>?_⟩
    · have:=(h4 (off + j) (vs[off + j]'(by omega)) (by simp)).1
      simp [this]
    · exact (h4 (off + j) (vs[off + j]'(by omega)) (by simp)).2.1
  refine ⟨hfirst.1,hfirst.2,?_⟩
  clear hfirst
  induction ds generalizing us s w cs off with
  | nil =>
    simp only [VRels] at hd
    subst hd
    simp only [asetAll,World.setCells]
    have : s.set o cs = s:=by
      cases s with
      | mk objs own =>
        simp only [AS.set,AS.mk.injEq,and_true]
        funext i
        simp only [upd]
        split
        · rename_i e; subst e; exact ho.symm
        · rfl
    rw [this]; exact h
  | cons d ds ih =>
    simp only [VRels] at hd
    obtain ⟨u,us',rfl,hu,hds⟩:=hd
    simp only [List.length_cons] at hle
    obtain ⟨_,_,h1⟩:=h.setCell ho hb (i:=off) (by omega) hu
    simp only [asetAll,World.setCells]
    have:=ih (s:=s.set o (cs.set off d)) (w:=w.setCell ⟨b,off,none⟩ u) (cs:=cs.set off d) (off:=off + 1) (us:=us') h1 (by simp [AS.set]) (by simp; omega) hds hds.length
    have e : (s.set o (cs.set off d)).set o (asetAll (cs.set off d) (off + 1) ds) = s.set o (asetAll (cs.set off d) (off + 1) ds):=by
      simp only [AS.set,AS.mk.injEq,and_true]
      funext i
      simp only [upd]
      split <;> rfl
    rw [e] at this
    exact this
theorem run_store_obj (h : SRel Γ G s w) {T : TypeId} {o off : Nat} {cs : List AV} {x : AV} {u a : Value} (ho : s.objs o = some cs) (ha : VRel G (.ptr o off) a) (hz : P.cellsOf T≠0) (hsz : x.cells.length = P.cellsOf T)
    (hle : off + x.cells.length≤cs.length) (h1 : x.cells.all AV.one = true) (hx : VRel G x u) :
    ∃ w',(Instr.storeAt T a u).run P w = .ok () w'∧SRel Γ G (s.set o (asetAll cs off x.cells)) w':=by
  simp only [VRel] at ha
  obtain ⟨b,hb,rfl⟩:=ha
  have hv:=VRels_of_cells hx
  have hl:=hv.length
  obtain ⟨f1,f2,f3⟩:=setCells_obj h ho hb hle hv
  have hst:=run_storeCells_cells (P:=P) b off u.cells.toList 0 w (by simpa using f1) (by simpa using f2) (one_of_all hv h1)
  refine ⟨_,?_,f3⟩
  simp only [Nat.add_zero] at hst
  have hsz' : u.cells.size = P.cellsOf T:=by simp at hl; omega
  simp [Instr.storeAt,Instr.sureAddr,storeVar,run_sizeOf' hz,hsz',hst]
theorem opres_value {K : AV→AS→Prop} {x : Sem Value} (h : ∃ G' v w' r s',x.run P w = .ok v w'∧G.le G'∧SRel Γ G' s' w'∧VRel G' r v∧K r s') :
    OpRes P Γ G K ((do pure (.value (← x)) : Sem Next).run P w):=by
  obtain ⟨G',v,w',r,s',h1,h2,h3,h4,h5⟩:=h
  simp only [Sem.run_bind,h1,Result.andThen_ok,Sem.run_pure,OpRes]
  exact ⟨G',r,s',h2,h3,h4,h5⟩
theorem opres_call {K : AV→AS→Prop} {k : FuncId} {as : List AV} {vs : List Value} (hc : callable P k = true) (h : ACalls P Γ k as s K) (hs : SRel Γ G s w) (hv : VRels G as vs) :
    OpRes P Γ G K ((callFunc k vs.toArray).run P w):=by
  rw [run_callFunc hc]
  exact h G w vs hs hv
theorem aeff_load {ρ : Operand→AV} {ρ' : Operand→Value} {K : AV→AS→Prop} {T : TypeId} {x : Operand} {o : Oper} (ho : o.op = .load T x) (h : aeff P Γ ρ s K (.load T x)) (hρ : ∀ x,VRel G (ρ x) (ρ' x)) (hs : SRel Γ G s w) :
    OpRes P Γ G K ((execOp ρ' o).run P w):=by
  simp only [aeff] at h
  have hx:=hρ x
  split at h
  · rename_i ob off hc
    rw [hc] at hx
    split at h
    · rename_i cs hcs
      obtain ⟨hz,h⟩:=h
      split at h
      · rename_i v hl
        simp only [VRel] at hx
        obtain ⟨b,hb,hu⟩:=hx
        obtain ⟨b',vs,h1,h2,h3,h4⟩:=hs.objs ob cs hcs
        rw [hb] at h1; cases h1
        obtain ⟨z,q1,q2⟩:=run_loadVar' (w:=w) hl hz (h2.drop off) (b:=b) (off:=off) (fun j u hj=>by
          rw [add_spot]
          rw [List.getElem?_drop] at hj
          exact (h4 _ _ hj).1)
        have e : execOp ρ' o = (do pure (.value (← Instr.loadAt T (ρ' x)))):=by simp only [execOp,ho]
        rw [e]
        exact opres_value ⟨G,z,w,v,s,by simp only [hu,Instr.loadAt,Instr.sureAddr,Sem.run_bind,Sem.run_pure,Result.andThen_ok,q1],.refl G,hs,q2,h⟩
      · exact h.elim
    · exact h.elim
  · exact h.elim
theorem aeff_store {ρ : Operand→AV} {ρ' : Operand→Value} {K : AV→AS→Prop} {T : TypeId} {x y : Operand} {o : Oper} (ho : o.op = .store T x y) (h : aeff P Γ ρ s K (.store T x y)) (hρ : ∀ x,VRel G (ρ x) (ρ' x)) (hs : SRel Γ G s w) :
    OpRes P Γ G K ((execOp ρ' o).run P w):=by
  simp only [aeff] at h
  have hx:=hρ x
  split at h
  · rename_i ob off hc
    rw [hc] at hx
    split at h
    · rename_i cs hcs
      obtain ⟨hz,h1,h2,h3,h4⟩:=h
      obtain ⟨w',q1,q2⟩:=run_store_obj (P:=P) hs hcs hx hz h1 h2 h3 (hρ y)
      have e : execOp ρ' o = (do Instr.storeAt T (ρ' x) (ρ' y); pure .skip):=by simp only [execOp,ho]
      rw [e]
      simp only [Sem.run_bind,q1,Result.andThen_ok,Sem.run_pure,OpRes]
      exact ⟨G,_,.refl G,q2,h4⟩
    · exact h.elim
  · exact h.elim
theorem aeff_new {K : AV→AS→Prop} {cs : List AV} {T : TypeId} {v : Value} (h : ∀ o,s.objs o = none→K (.ptr o 0) (s.set o cs)) (hv : VRels G cs v.cells.toList) (hs : SRel Γ G s w) :
    OpRes P Γ G K ((do pure (.value (← (do pure (.pointer (some (← newVar T v))) : Sem Value))) : Sem Next).run P w):=by
  obtain ⟨o,h1,h2,h3,h4⟩:=hs.newObj hv T
  refine opres_value ⟨_,.pointer (some ⟨w.heap.size,0,none⟩),_,_,_,?_,h2,h3,?_,h o h1⟩
  · simp [newVar,newRow]
  · simp only [VRel]
    exact ⟨_,h4,rfl⟩
theorem aeff_alloc {ρ : Operand→AV} {ρ' : Operand→Value} {K : AV→AS→Prop} {T : TypeId} {o : Oper} (ho : o.op = .alloc T) (h : aeff P Γ ρ s K (.alloc T)) (hs : SRel Γ G s w) :
    OpRes P Γ G K ((execOp ρ' o).run P w):=by
  simp only [aeff] at h
  split at h
  · rename_i z hz
    obtain ⟨v,hv,rfl⟩:=zcells_some hz
    have:=aeff_new (P:=P) (T:=T) (v:=v) h (VRels.vals _) hs
    have e : (execOp ρ' o).run P w = (do pure (.value (← (do pure (.pointer (some (← newVar T v))) : Sem Value))) : Sem Next).run P w:=by
      simp [execOp,ho,Instr.alloc,hv]
    rw [e]; exact this
  · exact h.elim
theorem aeff_box {ρ : Operand→AV} {ρ' : Operand→Value} {K : AV→AS→Prop} {T : TypeId} {x : Operand} {o : Oper} (ho : o.op = .box T x) (h : aeff P Γ ρ s K (.box T x)) (hρ : ∀ x,VRel G (ρ x) (ρ' x)) (hs : SRel Γ G s w) :
    OpRes P Γ G K ((execOp ρ' o).run P w):=by
  simp only [aeff] at h
  have:=aeff_new (P:=P) (T:=T) (v:=ρ' x) h (VRels_of_cells (hρ x)) hs
  have e : (execOp ρ' o).run P w = (do pure (.value (← (do pure (.pointer (some (← newVar T (ρ' x)))) : Sem Value))) : Sem Next).run P w:=by
    simp [execOp,ho,Instr.box]
  rw [e]; exact this
theorem aeff_makeSlice {ρ : Operand→AV} {ρ' : Operand→Value} {K : AV→AS→Prop} {T : TypeId} {x y : Operand} {o : Oper} (ho : o.op = .makeSlice T x y) (h : aeff P Γ ρ s K (.makeSlice T x y)) (hρ : ∀ x,VRel G (ρ x) (ρ' x)) (hs : SRel Γ G s w) :
    OpRes P Γ G K ((execOp ρ' o).run P w):=by
  simp only [aeff] at h
  have hx:=hρ x
  have hy:=hρ y
  split at h
  · rename_i e k n k' m hu hc hc'
    rw [hc] at hx
    rw [hc'] at hy
    simp only [VRel] at hx hy
    split at h
    · rename_i z hz
      obtain ⟨v,hv,rfl⟩:=zcells_some hz
      obtain ⟨h0,rfl,h1,h2,h3,h4,h5⟩:=h
      have hsz : v.cells.size = P.cellsOf e:=by simpa using h4
      have hne : v.cells.toList≠[]:=by
        intro e'
        rw [e'] at h4
        simp at h4
        omega
      obtain ⟨ob,q1,q2,q3,q4⟩:=hs.newObj (VRels_zrow (G:=G) (m.toNat * P.cellsOf e) hne) e
      obtain ⟨i,hi⟩:=info_of_cells h3
      have hb : P.bytesOf e = i.bytes:=by simp [Program.bytesOf,hi]
      rw [hb] at h1
      have hw : IntKind.i64.wrap m = m:=IntWalk.i64_in m (by omega)
      refine (show execOp ρ' o = (do pure (.value (← Instr.makeSlice T (ρ' x) (ρ' y)))) by simp only [execOp,ho]) ▸ opres_value ⟨_,.slice (some ⟨w.heap.size,0,none⟩) m.toNat m.toNat,_,_,_,?_,q2,q3,?_,h5 ob q1⟩
      · have c1 : ¬ (m < 0):=by omega
        have c2 : ¬ (281474976710656 < (i.bytes : Int) * m):=by omega
        have hr0 : Array.range 0 = #[]:=rfl
        have hcells : (Array.range (m.toNat * P.cellsOf e)).map (fun j=>v.cells[j % v.cells.size]!) = ((List.range (m.toNat * P.cellsOf e)).map fun i=>v.cells.toList.toArray[i % v.cells.toList.toArray.size]!).toArray:=by
          apply Array.ext'
          simp
        by_cases hm0 : m.toNat * P.cellsOf e = 0
        · have hcells0 : (Array.range (m.toNat * P.cellsOf e)).map (fun j=>(#[] : Array Value)[j % (#[] : Array Value).size]!) = ((List.range (m.toNat * P.cellsOf e)).map fun i=>v.cells.toList.toArray[i % v.cells.toList.toArray.size]!).toArray:=by
            rw [hm0]; simp
          have hti : (typeInfo e).run P w = .ok i w:=by simp [typeInfo,hi]
          simp only [Instr.makeSlice,Sem.run_bind,run_underlying hu,hx,hy,asInt,asIntOf,Sem.run_pure,Result.andThen_ok,hti,hw]
          simp [c1,c2,run_sizeOf' h3,hm0,newRow,hr0]
        · have hti : (typeInfo e).run P w = .ok i w:=by simp [typeInfo,hi]
          simp only [Instr.makeSlice,Sem.run_bind,run_underlying hu,hx,hy,asInt,asIntOf,Sem.run_pure,Result.andThen_ok,hti,hw]
          simp only [c1,c2,run_sizeOf' h3,hm0,newRow,hv,hcells,decide_false,Bool.false_or,Bool.false_eq_true,if_false,Sem.run_bind,Sem.run_pure,Result.andThen_ok,run_askRoom,run_newObj_alloc,gt_iff_lt,Int.lt_irrefl,show ((2 : Int) ^ 48) = 281474976710656 from rfl,decide_true,Bool.true_or]
      · simp only [VRel]
        exact ⟨_,q4,rfl,Nat.le_refl _⟩
    · exact h.elim
  · exact h.elim
end Go.AM
namespace Go.AM
open Go Go.RowKit
variable {P : Program} {Γ : Nat→List AV} {G : Gh} {s : AS} {w : World}
theorem run_execOp_builtin {ρ' : Operand→Value} {o : Oper} {b : Builtin} {args : Array Operand} {argTypes : Array TypeId} (ho : o.op = .call { callee:=.builtin b,args,argTypes }) :
    execOp ρ' o = builtin b argTypes o.type (args.map fun | .const _=>true | _=>false) (args.map ρ'):=by
  obtain ⟨dst,op,type,pos,after,guard⟩:=o
  simp only at ho
  subst ho
  rfl
theorem two_of_toList {α : Type} {a : Array α} {x y : α} (h : a.toList = [x,y]) : a = #[x,y]:=by
  apply Array.ext'; simpa using h
theorem aeff_append {ρ : Operand→AV} {ρ' : Operand→Value} {K : AV→AS→Prop} {args : Array Operand} {argTypes : Array TypeId} {o : Oper} (ho : o.op = .call { callee:=.builtin .append,args,argTypes })
    (h : aeff P Γ ρ s K (.call { callee:=.builtin .append,args,argTypes })) (hρ : ∀ x,VRel G (ρ x) (ρ' x)) (hs : SRel Γ G s w) : OpRes P Γ G K ((execOp ρ' o).run P w):=by
  simp only [aeff] at h
  split at h
  · rename_i x y T xT ha ht
    split at h
    · rename_i e hT
      split at h
      · rename_i z m ds hz hsrc
        obtain ⟨h1,h2,h3,h4⟩:=h
        obtain ⟨G',v,w',r,s',q1,q2,q3,q4,q5⟩:=aappend_sound hT h1 ⟨hz,h2,h3⟩ hsrc h4 (hρ x) (hρ y) hs o.type
        rw [run_execOp_builtin ho]
        have e1:=two_of_toList ha
        have e2:=two_of_toList ht
        subst e1 e2
        simp only [builtin]
        exact opres_value ⟨G',v,w',r,s',by simpa using q1,q2,q3,q4,q5⟩
      · obtain ⟨G',v,w',r,s',q1,q2,q3,q4,q5⟩:=amade_sound hT h (hρ x) (hρ y) hs o.type
        rw [run_execOp_builtin ho]
        have e1:=two_of_toList ha
        have e2:=two_of_toList ht
        subst e1 e2
        simp only [builtin]
        exact opres_value ⟨G',v,w',r,s',by simpa using q1,q2,q3,q4,q5⟩
    · exact h.elim
  · exact h.elim
theorem aeff_copy {ρ : Operand→AV} {ρ' : Operand→Value} {K : AV→AS→Prop} {args : Array Operand} {argTypes : Array TypeId} {o : Oper} (ho : o.op = .call { callee:=.builtin .copy,args,argTypes })
    (h : aeff P Γ ρ s K (.call { callee:=.builtin .copy,args,argTypes })) (hρ : ∀ x,VRel G (ρ x) (ρ' x)) (hs : SRel Γ G s w) : OpRes P Γ G K ((execOp ρ' o).run P w):=by
  simp only [aeff] at h
  split at h
  · rename_i x y T xT ha ht
    split at h
    · rename_i e hT
      split at h
      · rename_i m ds ob off sz n cap hsrc hx
        split at h
        · rename_i cs hcs
          obtain ⟨hz,h1,h2,h3⟩:=h
          have hxr:=hρ x
          rw [hx] at hxr
          simp only [VRel] at hxr
          obtain ⟨b,hb,hu,hnc⟩:=hxr
          have hyr:=hρ y
          -- the source, cut to what is copied
          have key : ∃ us,VRels G (ds.take (min m n * P.cellsOf e)) us∧us.length = min m n * P.cellsOf e∧(Builtin.lenOf (ρ' y)).run P w = .ok m w∧(Builtin.firstCells (P.cellsOf e) (min m n) (ρ' y)).run P w = .ok us.toArray w:=by
            unfold asrc at hsrc
            split at hsrc
            · rename_i hy
              rw [hy] at hyr
              split at hsrc
              · rename_i sz' m' ds' sp hsz
                subst hsz
                cases hsrc
                simp only [VRel] at hyr
                rcases hyr with ⟨b2,off2,cap2,vs,hv0,hl,_,hv,hro,_⟩ | ⟨rfl,rfl,a,cap',hv0,_⟩ | ⟨rfl,rfl,_,hv0⟩
                case inr.inr =>
                  refine ⟨[],by simp [VRels],by simp,by rw [hv0]; rfl,?_⟩
                  rw [hv0]
                  simp [Builtin.firstCells]
                case inr.inl =>
                  refine ⟨[],by simp [VRels],by simp,by rw [hv0]; rfl,?_⟩
                  rw [hv0,Nat.zero_min]
                  exact run_firstCells_some w _ _ _ _ _ [] (by simp) (by simp)
                have hlen:=hv.length
                have hle : min m n * P.cellsOf e≤m * P.cellsOf e:=Nat.mul_le_mul_right _ (Nat.min_le_left _ _)
                refine ⟨vs.take (min m n * P.cellsOf e),hv.take _,by simp; omega,by rw [hv0]; rfl,?_⟩
                rw [hv0]
                exact run_firstCells_some w _ _ _ _ _ _ (by simp; omega) (fun j v hj=>by
                  rw [add_spot]
                  rw [List.getElem?_take] at hj
                  split at hj
                  · exact hs.ro _ _ _ (hro j v hj)
                  · cases hj)
              · cases hsrc
            · rename_i hy
              rw [hy] at hyr
              cases hsrc
              simp only [VRel] at hyr
              rw [hyr]
              exact ⟨[],by simp [VRels],by simp,rfl,by simp [Builtin.firstCells]⟩
            · rename_i hy
              rw [hy] at hyr
              split at hsrc
              · rename_i o2 off2 sz' m' cap2 hsz
                subst hsz
                split at hsrc
                · rename_i cs2 hc2
                  split at hsrc
                  · rename_i hle2
                    cases hsrc
                    simp only [VRel] at hyr
                    obtain ⟨b2,ho2,hv0,_⟩:=hyr
                    obtain ⟨b',vs,k1,k2,k3,k4⟩:=hs.objs o2 cs2 hc2
                    rw [ho2] at k1; cases k1
                    have hlen:=k2.length
                    have hle : min m n * P.cellsOf e≤m * P.cellsOf e:=Nat.mul_le_mul_right _ (Nat.min_le_left _ _)
                    refine ⟨((vs.drop off2).take (m * P.cellsOf e)).take (min m n * P.cellsOf e),((k2.drop off2).take _).take _,by simp; omega,by rw [hv0]; rfl,?_⟩
                    rw [hv0]
                    exact run_firstCells_some w _ _ _ _ _ _ (by simp; omega) (fun j v hj=>by
                      rw [add_spot]
                      rw [List.getElem?_take] at hj
                      split at hj
                      · rw [List.getElem?_take] at hj
                        split at hj
                        · rw [List.getElem?_drop] at hj
                          exact (k4 _ _ hj).1
                        · cases hj
                      · cases hj)
                  · cases hsrc
                · cases hsrc
              · cases hsrc
            · rename_i hy
              rw [hy] at hyr
              split at hsrc
              · rename_i b2 hsz
                cases hsrc
                simp only [VRel] at hyr
                rw [hyr,hsz]
                have hbs : b2.data.size = b2.size:=rfl
                refine ⟨(bvals b2.data.toList).take (min b2.size n * 1),(VRels_bytes _).take _,by simp [bvals,hbs],rfl,?_⟩
                simp only [Builtin.firstCells,Sem.run_pure]
                congr 1
                apply Array.ext'
                simp [bvals,List.map_take,List.extract_eq_take_drop]
              · cases hsrc
            · cases hsrc
          obtain ⟨us,hv,hlen,hl,hf⟩:=key
          have hvl:=hv.length
          obtain ⟨f1,f2,f3⟩:=setCells_obj hs hcs hb (off:=off) (by omega) hv
          have hone : (ds.take (min m n * P.cellsOf e)).all AV.one = true:=by
            rw [List.all_eq_true] at h1 ⊢
            exact fun x hx=>h1 x (List.mem_of_mem_take hx)
          have hst:=run_storeCells_cells (P:=P) b off us 0 w (by simpa using f1) (by simpa using f2) (one_of_all hv hone)
          simp only [Nat.add_zero] at hst
          rw [run_execOp_builtin ho]
          have e1:=two_of_toList ha
          have e2:=two_of_toList ht
          subst e1 e2
          simp only [builtin]
          refine opres_value ⟨G,.int .i64 ((min m n : Nat) : Int),_,_,_,?_,.refl G,f3,by simp [VRel],h3⟩
          have hu' : ρ' x = .slice (some ⟨b,off,none⟩) n cap:=hu
          have hf' : (Builtin.firstCells (P.cellsOf e) (Nat.min m n) (ρ' y)).run P w = .ok us.toArray w:=hf
          simp [Builtin.copy_,run_underlying hT,hu',hl,run_sizeOf' hz,hf',hst,goInt]
        · exact h.elim
      · exact h.elim
    · exact h.elim
  · exact h.elim
theorem aeff_call {ρ : Operand→AV} {ρ' : Operand→Value} {K : AV→AS→Prop} {f : Operand} {args : Array Operand} {argTypes : Array TypeId} {o : Oper} (ho : o.op = .call { callee:=.value f,args,argTypes })
    (h : aeff P Γ ρ s K (.call { callee:=.value f,args,argTypes })) (hρ : ∀ x,VRel G (ρ x) (ρ' x)) (hs : SRel Γ G s w) : OpRes P Γ G K ((execOp ρ' o).run P w):=by
  have e : (args.toList.map ρ').toArray = args.map ρ':=by apply Array.ext'; simp
  have hargs:=VRels.of_map hρ args.toList
  simp only [aeff] at h
  have hf:=hρ f
  split at h
  · rename_i k first caps hc
    rw [hc] at hf
    simp only [VRel] at hf
    obtain ⟨h1,h2,h3,h4⟩:=h
    have h1' : first = #[]:=by simpa using h1
    have h2' : caps = #[]:=by simpa using h2
    subst h1' h2'
    have:=opres_call h3 h4 hs hargs
    rw [e] at this
    obtain ⟨dst,op,type,pos,after,guard⟩:=o
    simp only at ho
    subst ho
    simpa [execOp,resolve,hf,Deferred.ofValue,invoke] using this
  · rename_i k caps hc
    rw [hc] at hf
    simp only [VRel] at hf
    obtain ⟨vs,hf,hv⟩:=hf
    obtain ⟨h3,h4⟩:=h
    have:=opres_call h3 h4 hs (hargs.append hv)
    have e2 : (args.toList.map ρ' ++ vs).toArray = args.map ρ' ++ vs.toArray:=by apply Array.ext'; simp
    rw [e2] at this
    obtain ⟨dst,op,type,pos,after,guard⟩:=o
    simp only at ho
    subst ho
    simpa [execOp,resolve,hf,Deferred.ofValue,invoke] using this
  · exact h.elim
theorem SRel.newM (h : SRel Γ G s w) {m : MO} {o : Obj} (k : MORel G m o) : s.maps w.heap.size = none∧SRel Γ G (s.putM w.heap.size m) (w.alloc o):=by
  have hn : s.maps w.heap.size = none:=by
    cases hm : s.maps w.heap.size with
    | none=>rfl
    | some l =>
      obtain ⟨_,ob,m2,_⟩:=h.maps _ l hm
      exact absurd (Array.getElem?_eq_some_iff.1 m2).1 (Nat.lt_irrefl _)
  have h1:=h.alloc o (fun c T lo hi e=>absurd e (k.nc _ _ _))
  refine ⟨hn,{ h1 with maps:=fun b l hb=>?_ }⟩
  by_cases e : b = w.heap.size
  · subst e
    simp only [AS.putM,upd_same,Option.some.injEq] at hb
    subst hb
    exact ⟨h.base,o,heapNew w _,k⟩
  · simp only [AS.putM,upd_ne _ _ e] at hb
    exact h1.maps b l hb
theorem SRel.newMap (h : SRel Γ G s w) : s.maps w.heap.size = none∧SRel Γ G (s.setMap w.heap.size []) (w.alloc (.map #[] 0)):=h.newM ⟨#[],0,rfl,MapKept.stamped_empty 0,rfl⟩
theorem SRel.putM (h : SRel Γ G s w) {b : Nat} {m m' : MO} {ob ob' : Obj} (hl : s.maps b = some m) (hes : w.heap[b]? = some ob) (hrel : MORel G m' ob') : SRel Γ G (s.putM b m') (w.putObj b ob'):=by
  have hlt:=(Array.getElem?_eq_some_iff.1 hes).1
  obtain ⟨hB,ob0,hob,hrel0⟩:=h.maps b m hl
  rw [hes] at hob
  cases hob
  have hk:=hrel0.mapish
  have hk':=hrel.mapish
  have h1:=World.putObj_heap_same (w:=w) (o:=ob') hlt
  have hcell : ∀ b' j,(w.putObj b ob').cell? ⟨b',j,none⟩ = w.cell? ⟨b',j,none⟩:=by
    intro b' j
    by_cases e : b' = b
    · subst e
      rcases hk with ⟨_,_,rfl⟩ | ⟨_,_,_,_,rfl⟩ <;> rcases hk' with ⟨_,_,rfl⟩ | ⟨_,_,_,_,rfl⟩ <;> simp only [World.cell?,h1,hes]
    · exact World.cell?_of_block (World.putObj_heap_other e)
  have hfro : ∀ b' j,(w.putObj b ob').frozen? ⟨b',j,none⟩ = w.frozen? ⟨b',j,none⟩:=by
    intro b' j
    by_cases e : b' = b
    · subst e
      rcases hk with ⟨_,_,rfl⟩ | ⟨_,_,_,_,rfl⟩ <;> rcases hk' with ⟨_,_,rfl⟩ | ⟨_,_,_,_,rfl⟩ <;> simp only [World.frozen?,h1,hes]
    · exact World.frozen?_of_block (World.putObj_heap_other e)
  have hg : w.grownBy (w.putObj b ob') (some b):=⟨rfl,rfl,rfl,by simp [World.putObj],fun i _ hi=>World.putObj_heap_other (fun e=>hi (by rw [e]))⟩
  exact {
    ro:=fun b' j u hu=>by rw [hcell]; exact h.ro b' j u hu
    objs:=fun o cs ho=>by
      obtain ⟨b',vs,h1,h2,h3,h4⟩:=h.objs o cs ho
      refine ⟨b',vs,h1,h2,h3,fun j u hu=>?_⟩
      obtain ⟨k1,k2,k3⟩:=h4 j u hu
      exact ⟨by rw [hcell]; exact k1,by rw [hfro]; exact k2,k3⟩
    objLt:=fun o b' hb=>by have:=h.objLt o b' hb; simpa [World.putObj] using this
    inj:=h.inj
    own:=fun t e he=>by
      obtain ⟨b',st,en,h1,h2,h3,h4,h5,h6⟩:=h.own t e he
      refine ⟨b',st,en,h1,h2,h3,fun j hj hj'=>?_,h5,by simpa [World.putObj] using h6⟩
      obtain ⟨⟨u,k1⟩,k2,k3⟩:=h4 j hj hj'
      exact ⟨⟨u,by rw [hcell]; exact k1⟩,by rw [hfro]; exact k2,k3⟩
    ownInj:=h.ownInj
    ownLast:=h.ownLast
    freshO:=h.freshO
    freshT:=h.freshT
    below:=h.below.grown hg (by have:=h.base; omega) (fun i e=>by cases e; exact hB)
    others:=fun i x hi hx=>by
      by_cases e : i = b
      · subst e
        have:=h.others i x hi hx
        rw [hes] at this
        cases this
        rcases hk with ⟨_,_,e⟩ | ⟨_,_,_,_,e⟩
        · exact absurd e (hx.2.1 _ _)
        · exact absurd e (hx.2.2 _ _ _ _)
      · rw [World.putObj_heap_other e]
        exact h.others i x hi hx
    base:=by simpa [World.putObj] using h.base
    glob:=fun g=>by
      obtain ⟨us,h1,h2⟩:=h.glob g
      exact ⟨us,h1,h2⟩
    soft:=fun b' c0 T lo hi hkn hc=>by
      by_cases e : b' = b
      · subst e
        rw [h1] at hc
        cases hc
        exact absurd rfl (hrel.nc _ _ _)
      · rw [World.putObj_heap_other e] at hc
        exact h.soft b' c0 T lo hi (by simpa [Kn,AS.putM] using hkn) hc
    maps:=fun b' l0 hb=>by
      by_cases e : b' = b
      · subst e
        simp only [AS.putM,upd_same,Option.some.injEq] at hb
        subst hb
        exact ⟨hB,ob',h1,hrel⟩
      · simp only [AS.putM,upd_ne _ _ e] at hb
        obtain ⟨m1,o0,m2,m3⟩:=h.maps b' l0 hb
        exact ⟨m1,o0,by rw [World.putObj_heap_other e]; exact m2,m3⟩ }
theorem SRel.mapAt (h : SRel Γ G s w) {b : Nat} {l : List (Value × AV)} (hl : (s.maps b).bind MO.list = some l) : ∃ es c,w.heap[b]? = some (.map es c)∧MapKept.Stamped es c∧MapRel G l es.toList:=by
  cases hm : s.maps b with
  | none=>rw [hm] at hl; cases hl
  | some m =>
    rw [hm] at hl
    obtain ⟨_,ob,m2,m3⟩:=h.maps b m hm
    cases m with
    | map l' =>
      obtain rfl : l' = l:=by simpa [MO.list] using hl
      obtain ⟨es,c,rfl,a,b⟩:=m3
      exact ⟨es,c,m2,a,b⟩
    | fix l' es c =>
      obtain rfl : l' = l:=by simpa [MO.list] using hl
      obtain ⟨rfl,a,b⟩:=m3
      exact ⟨es,c,m2,a,b⟩
    | iter _ _ _ _ _=>simp [MO.list] at hl
theorem keyPlain_same {d : TypeDesc} {k : Value} (h : keyPlain d k = true) : Instr.sameNow d k k = some true:=by
  cases d <;> cases k <;> simp_all [keyPlain,Instr.sameNow,MapKept.bytes_beq]
theorem findNow_none {d : TypeDesc} {k : Value} (hk : Instr.sameNow d k k = some true) : ∀ {l : List MapEntry} {i : Nat},Instr.findNow d k l i = some none→∀ x ∈ l,x.key≠k
  | [],_,_,x,hx=>by cases hx
  | e :: l,i,h,x,hx=>by
    simp only [Instr.findNow] at h
    rcases List.mem_cons.1 hx with rfl | hx
    · intro e1
      rw [e1,hk] at h
      cases h
    · split at h
      · cases h
      · exact findNow_none hk h x hx
      · cases h
theorem same_eq {d : TypeDesc} {a b : Value} (h : Instr.sameNow d a b = some true) : b = a:=by
  unfold Instr.sameNow at h
  split at h
  · split at h
    · rename_i e
      simp only [Option.some.injEq,beq_iff_eq] at h
      subst e h
      rfl
    · cases h
  · simp only [Option.some.injEq,MapKept.bytes_beq] at h
    subst h
    rfl
  · simp only [Option.some.injEq,beq_iff_eq] at h
    subst h
    rfl
  · cases h
theorem keyPlain_is {d : TypeDesc} {k : Value} (h : keyPlain d k = true) : MapKept.IsKey d k:=by
  cases d <;> cases k <;> simp_all [keyPlain,MapKept.IsKey]
theorem amFind_now {G : Gh} {d : TypeDesc} {k : Value} : ∀ {l : List (Value × AV)} {es : List MapEntry} {i : Nat} {r : Option AV},MapRel G l es→amFind d k l = some r →
    ∃ q,Instr.findNow d k es i = some q∧(match r with | none=>q = none | some v=>∃ j x,q = some (j,x)∧VRel G v x)
  | [],es,i,r,hm,h=>by
    simp only [MapRel] at hm
    subst hm
    simp only [amFind,Option.some.injEq] at h
    subst h
    exact ⟨none,rfl,rfl⟩
  | (k',v) :: l,es,i,r,hm,h=>by
    simp only [MapRel] at hm
    obtain ⟨e,es',rfl,h2,h3,h4⟩:=hm
    simp only [amFind] at h
    simp only [Instr.findNow,h2]
    split at h
    · rename_i hs
      simp only [Option.some.injEq] at h
      subst h
      rw [hs]
      exact ⟨_,rfl,i,e.val,rfl,h3⟩
    · rename_i hs
      rw [hs]
      exact amFind_now h4 h
    · cases h
theorem amSet_now {G : Gh} {d : TypeDesc} {k : Value} {v : AV} {x : Value} (hv : VRel G v x) : ∀ {l l' : List (Value × AV)} {es : List MapEntry} {i : Nat},MapRel G l es→amSet d k v l = some l' →
    (Instr.findNow d k es i = some none∧∀ c,MapRel G l' (es ++ [{ key:=k,val:=x,born:=c }])) ∨
    ∃ j y,Instr.findNow d k es i = some (some (i + j,y))∧j < es.length∧(∀ e,es[j]? = some e→e.key = k)∧MapRel G l' (es.modify j fun e=>{ e with key:=k,val:=x })
  | [],l',es,i,hm,h=>by
    simp only [MapRel] at hm
    subst hm
    simp only [amSet,Option.some.injEq] at h
    subst h
    exact .inl ⟨rfl,fun c=>⟨_,_,rfl,rfl,hv,rfl⟩⟩
  | (k',v0) :: l,l',es,i,hm,h=>by
    simp only [MapRel] at hm
    obtain ⟨e,es',rfl,h2,h3,h4⟩:=hm
    simp only [amSet] at h
    simp only [Instr.findNow,h2]
    split at h
    · rename_i hs
      simp only [Option.some.injEq] at h
      subst h
      rw [hs]
      obtain rfl:=same_eq hs
      exact .inr ⟨0,e.val,rfl,by simp,by simp [h2],⟨_,_,rfl,rfl,hv,h4⟩⟩
    · rename_i hs
      rw [hs]
      simp only [Option.map_eq_some_iff] at h
      obtain ⟨r,hr,rfl⟩:=h
      rcases amSet_now hv (i:=i + 1) h4 hr with ⟨a,b⟩ | ⟨j,y,a,b,c,q⟩
      · exact .inl ⟨a,fun c=>⟨e,_,rfl,h2,h3,b c⟩⟩
      · refine .inr ⟨j + 1,y,by rw [a,show i + 1 + j = i + (j + 1) by omega],by simp only [List.length_cons]; omega,by simpa using c,?_⟩
        simp only [List.modify_succ_cons,MapRel]
        exact ⟨e,_,rfl,h2,h3,q⟩
    · cases h
theorem aeff_makeMap {ρ' : Operand→Value} {K : AV→AS→Prop} {o : Oper} {T : TypeId} (ho : o.op = .makeMap T none) (h : ∀ b,s.maps b = none→K (.v (.map (some b))) (s.setMap b [])) (hs : SRel Γ G s w) : OpRes P Γ G K ((execOp ρ' o).run P w):=by
  obtain ⟨h1,h2⟩:=hs.newMap
  have : (execOp ρ' o).run P w = .ok (.value (.map (some w.heap.size))) (w.alloc (.map #[] 0)):=by
    simp [execOp,ho,show (Instr.makeMap T none).run P w = .ok (.map (some w.heap.size)) (w.alloc (.map #[] 0)) from rfl,Result.andThen]
  rw [this]
  exact ⟨G,_,_,.refl G,h2,by simp only [VRel],h _ h1⟩
theorem aeff_lookup {ρ : Operand→AV} {ρ' : Operand→Value} {K : AV→AS→Prop} {o : Oper} {T : TypeId} {m k : Operand} {ok : Bool} (ho : o.op = .lookup T m k ok) (h : aeff P Γ ρ s K (.lookup T m k ok)) (hρ : ∀ x,VRel G (ρ x) (ρ' x)) (hs : SRel Γ G s w) : OpRes P Γ G K ((execOp ρ' o).run P w):=by
  have hm:=hρ m
  have hk:=hρ k
  simp only [aeff] at h
  split at h
  case h_2=>exact h.elim
  rename_i kt et hT
  split at h
  · rename_i b kv h1 h2
    rw [amOf_some h1] at hm
    rw [avOf_some h2] at hk
    simp only [VRel] at hm hk
    split at h
    · rename_i d l z hd hl hz
      obtain ⟨hp,h⟩:=h
      obtain ⟨es,c,m2,_,m3⟩:=hs.mapAt hl
      have hg:=MapKept.run_getObj_map (P:=P) m2
      have hik:=keyPlain_is hp
      have hz' : (zeroValue et).run P w = .ok z w:=by
        unfold azero at hz
        cases hi : P.info? et with
        | none=>rw [hi] at hz; cases hz
        | some info =>
          rw [hi] at hz
          simp only [Option.bind_some] at hz
          simp [zeroValue,typeInfo,hi,hz]
      split at h
      · rename_i v hf
        obtain ⟨q,q1,j,x,rfl,q2⟩:=amFind_now (i:=0) m3 hf
        have hr : (execOp ρ' o).run P w = .ok (.value (if ok = true then .tuple #[x,.bool true] else x)) w:=by
          simp [execOp,ho,Instr.lookup,hm,hk,run_underlying hT,hg,MapKept.run_checkKey hd hik,MapKept.run_findKey hd q1,Result.andThen]
        rw [hr]
        refine ⟨G,_,_,.refl G,hs,?_,h⟩
        cases ok
        · exact q2
        · simp only [if_true,VRel]
          exact ⟨_,rfl,⟨x,_,rfl,q2,⟨_,_,rfl,rfl,rfl⟩⟩⟩
      · rename_i hf
        obtain ⟨q,q1,rfl⟩:=amFind_now (i:=0) m3 hf
        have hr : (execOp ρ' o).run P w = .ok (.value (if ok = true then .tuple #[z,.bool false] else z)) w:=by
          simp [execOp,ho,Instr.lookup,hm,hk,run_underlying hT,hg,MapKept.run_checkKey hd hik,MapKept.run_findKey hd q1,Result.andThen,hz']
        rw [hr]
        refine ⟨G,_,_,.refl G,hs,?_,h⟩
        cases ok
        · simp only [Bool.false_eq_true,if_false,VRel]
        · simp only [if_true,VRel]
          exact ⟨_,rfl,⟨z,_,rfl,rfl,⟨_,_,rfl,rfl,rfl⟩⟩⟩
      · exact h.elim
    · exact h.elim
  · exact h.elim
theorem aeff_mapUpdate {ρ : Operand→AV} {ρ' : Operand→Value} {K : AV→AS→Prop} {o : Oper} {T : TypeId} {m k v : Operand} (ho : o.op = .mapUpdate T m k v) (h : aeff P Γ ρ s K (.mapUpdate T m k v)) (hρ : ∀ x,VRel G (ρ x) (ρ' x)) (hs : SRel Γ G s w) : OpRes P Γ G K ((execOp ρ' o).run P w):=by
  have hm:=hρ m
  have hk:=hρ k
  simp only [aeff] at h
  split at h
  case h_2=>exact h.elim
  rename_i kt et hT
  split at h
  · rename_i b kv h1 h2
    rw [amOf_some h1] at hm
    rw [avOf_some h2] at hk
    simp only [VRel] at hm hk
    split at h
    · rename_i d l hd hl
      obtain ⟨hp,h⟩:=h
      obtain ⟨_,_,m2,es,c,rfl,hst,m3⟩:=hs.maps b _ hl
      have hg:=MapKept.run_getObj_map (P:=P) m2
      have hik:=keyPlain_is hp
      have hlt:=(Array.getElem?_eq_some_iff.1 m2).1
      split at h
      · rename_i l' hf
        rcases amSet_now (hρ v) (i:=0) m3 hf with ⟨a,b1⟩ | ⟨j,y,a,b1,c1,q⟩
        · have hr : (execOp ρ' o).run P w = .ok .skip (w.putObj b (.map (es.push { key:=ρ' k,val:=ρ' v,born:=c }) (c + 1))):=by
            simp [execOp,ho,Instr.mapUpdate,hm,hk,run_underlying hT,hg,MapKept.run_checkKey hd hik,MapKept.run_findKey hd a,Result.andThen,MapKept.run_setObj_map _ m2,World.putObj]
          rw [hr]
          exact ⟨G,_,.refl G,hs.putM (m':=.map l') hl m2 ⟨_,_,rfl,MapKept.stamped_push hst (by rw [hk]; exact findNow_none (keyPlain_same hp) a),by rw [Array.toList_push,hk]; exact b1 c⟩,h⟩
        · rw [Nat.zero_add] at a
          have hr : (execOp ρ' o).run P w = .ok .skip (w.putObj b (.map (es.modify j fun e=>{ e with key:=ρ' k,val:=ρ' v }) c)):=by
            have hj : j < es.size:=by simpa using b1
            have hkk : (es[j]).key = kv:=c1 _ (by simp [hj])
            simp [execOp,ho,Instr.mapUpdate,hm,hk,run_underlying hT,hg,MapKept.run_checkKey hd hik,MapKept.run_findKey hd a,Result.andThen,hj,hkk,MapKept.run_keyThatStays hik,MapKept.run_setObj_map _ m2,World.putObj]
          rw [hr]
          refine ⟨G,_,.refl G,hs.putM (m':=.map l') hl m2 ⟨_,_,rfl,MapKept.stamped_modify hst _ _ (fun _ _=>rfl) (fun e _ h1=>by rw [hk]; exact (c1 e (by rw [Array.getElem?_toList]; exact h1)).symm),?_⟩,h⟩
          rw [Array.toList_modify,hk]
          exact q
      · exact h.elim
    · exact h.elim
  · exact h.elim
theorem SRel.turnM (h : SRel Γ G s w) {b : Nat} {m m' : MO} {ob : Obj} (hl : s.maps b = some m) (hes : w.heap[b]? = some ob) (hrel : MORel G m' ob) : SRel Γ G (s.putM b m') w:=by
  refine { h with maps:=fun b' l0 hb=>?_ }
  by_cases e : b' = b
  · subst e
    simp only [AS.putM,upd_same,Option.some.injEq] at hb
    subst hb
    exact ⟨(h.maps b' m hl).1,ob,hes,hrel⟩
  · simp only [AS.putM,upd_ne _ _ e] at hb
    exact h.maps b' l0 hb
theorem aiter_some {x : AV} {r : Nat} (h : aiter x = some r) : x = .v (.pointer (some ⟨r,0,none⟩)):=by
  unfold aiter at h
  split at h
  · simp only [Option.some.injEq] at h
    subst h
    rfl
  · cases h
theorem aeff_range {ρ : Operand→AV} {ρ' : Operand→Value} {K : AV→AS→Prop} {o : Oper} {T : TypeId} {x : Operand} (ho : o.op = .range T x) (h : aeff P Γ ρ s K (.range T x)) (hρ : ∀ x,VRel G (ρ x) (ρ' x)) (hs : SRel Γ G s w) : OpRes P Γ G K ((execOp ρ' o).run P w):=by
  have hm:=hρ x
  simp only [aeff] at h
  split at h
  · rename_i kt et b hT h1
    rw [amOf_some h1] at hm
    simp only [VRel] at hm
    split at h
    · rename_i l hl
      obtain ⟨_,_,m2,es,c,rfl,hst,m3⟩:=hs.maps b _ hl
      have hr : (execOp ρ' o).run P w = .ok (.value (.pointer (some ⟨w.heap.size,0,none⟩))) (w.alloc (.mapIter (some b) c #[] c)):=by
        simp [execOp,ho,hm,run_range_map w T kt et b es c hT m2,Result.andThen]
      rw [hr]
      have hs1 : SRel Γ G (s.putM b (.fix l es c)) w:=hs.turnM hl m2 ⟨rfl,hst,m3⟩
      have hk : MORel G (.iter b es c l none) (.mapIter (some b) c #[] c):=⟨c,#[],c,rfl,((MapKept.stamped_iff es c).1 hst).1,Nat.le_refl _,Nat.le_refl _,by rw [show leftOf es #[] = es from by unfold leftOf; rw [Array.filter_eq_self]; intro a _; simp]; exact m3,fun _ _ e=>by cases e⟩
      exact ⟨G,_,_,.refl G,(hs1.newM hk).2,by simp only [VRel],h es c _ (hs.newM hk).1⟩
    · exact h.elim
  · exact h.elim
theorem MapRel.at {G : Gh} : ∀ {l : List (Value × AV)} {es : List MapEntry} (i : Nat) (h : i < es.length),MapRel G l es→∃ h' : i < l.length,l[i].1 = es[i].key∧VRel G l[i].2 es[i].val
  | [],es,i,h,k=>by
    simp only [MapRel] at k
    subst k
    cases h
  | (q,v) :: l,es,i,h,k=>by
    simp only [MapRel] at k
    obtain ⟨e,es',rfl,h2,h3,h4⟩:=k
    cases i with
    | zero=>exact ⟨by simp,h2.symm,h3⟩
    | succ i =>
      obtain ⟨a,b⟩:=MapRel.at i (by simpa using h) h4
      exact ⟨by simpa using a,b⟩
theorem MapRel.erase {G : Gh} : ∀ {l : List (Value × AV)} {es : List MapEntry} (i : Nat),MapRel G l es→MapRel G (l.eraseIdx i) (es.eraseIdx i)
  | [],es,i,k=>by
    simp only [MapRel] at k
    subst k
    simp [MapRel]
  | (q,v) :: l,es,i,k=>by
    simp only [MapRel] at k
    obtain ⟨e,es',rfl,h2,h3,h4⟩:=k
    cases i with
    | zero=>exact h4
    | succ i=>exact ⟨e,_,rfl,h2,h3,MapRel.erase i h4⟩
theorem filter_erase : ∀ {l : List MapEntry} (i : Nat) (h : i < l.length),(l.map (·.born)).Nodup→l.filter (fun e=>!(e.born == l[i].born)) = l.eraseIdx i
  | e :: l,0,_,hn=>by
    simp only [List.map_cons,List.nodup_cons,List.mem_map,not_exists,not_and] at hn
    simp only [List.getElem_cons_zero,List.filter_cons,beq_self_eq_true,Bool.not_true,Bool.false_eq_true,if_false,List.eraseIdx_zero,List.tail_cons,List.filter_eq_self]
    intro x hx
    simpa using hn.1 x hx
  | e :: l,i + 1,h,hn=>by
    simp only [List.map_cons,List.nodup_cons,List.mem_map,not_exists,not_and] at hn
    have hi : i < l.length:=by simpa using h
    have:=hn.1 l[i] (List.getElem_mem hi)
    simp only [List.getElem_cons_succ,List.filter_cons,List.eraseIdx_cons_succ]
    rw [if_pos (by simpa using fun q=>this q.symm),filter_erase i hi hn.2]
theorem leftOf_push {es : Array MapEntry} {c : Nat} (hst : MapKept.Stamped es c) {seen : Array Nat} {i : Nat} (hi : i < (leftOf es seen).toList.length) :
    (leftOf es (seen.push (leftOf es seen).toList[i].born)).toList = (leftOf es seen).toList.eraseIdx i:=by
  have hn : ((leftOf es seen).toList.map (·.born)).Nodup:=by
    unfold leftOf
    rw [Array.toList_filter]
    exact List.Sublist.nodup (List.Sublist.map _ List.filter_sublist) ((MapKept.stamped_iff es c).1 hst).2.1
  rw [← filter_erase i hi hn]
  generalize (leftOf es seen).toList[i].born = n
  unfold leftOf
  rw [Array.toList_filter,Array.toList_filter,List.filter_filter]
  congr 1
  funext e
  rw [Array.contains_push]
  cases (e.born == n) <;> cases seen.contains e.born <;> rfl
theorem aeff_next {ρ : Operand→AV} {ρ' : Operand→Value} {K : AV→AS→Prop} {o : Oper} {x : Operand} (ho : o.op = .next x false) (h : aeff P Γ ρ s K (.next x false)) (hρ : ∀ x,VRel G (ρ x) (ρ' x)) (hs : SRel Γ G s w) : OpRes P Γ G K ((execOp ρ' o).run P w):=by
  have hm:=hρ x
  simp only [aeff] at h
  split at h
  · rename_i r h1
    rw [aiter_some h1] at hm
    simp only [VRel] at hm
    split at h
    · rename_i b es c left cur hl
      obtain ⟨l,hf,k0,k1⟩:=h
      obtain ⟨_,_,m2,since,seen,c0,rfl,q1,q2,q3,q4,q5⟩:=hs.maps r _ hl
      obtain ⟨_,_,n2,rfl,hst,n3⟩:=hs.maps b _ hf
      rcases run_next_at (P:=P) w o.type r b since c0 seen es c m2 n2 q1 q2 with ⟨h0,hrun⟩ | ⟨e,he,w1,hw1,hrun⟩
      · have hr : (execOp ρ' o).run P w = .ok (.value (.tuple #[.bool false])) w:=by
          simp [execOp,ho,hm,hrun,Result.andThen]
        rw [hr]
        have e0 : left = []:=by
          rw [Array.eq_empty_of_size_eq_zero h0] at q4
          cases left with
          | nil=>rfl
          | cons a l=>simp [MapRel] at q4
        refine ⟨G,_,_,.refl G,hs,?_,k0 e0⟩
        simp only [VRel]
        exact ⟨_,rfl,⟨_,_,rfl,rfl,rfl⟩⟩
      · obtain ⟨i,hi,rfl⟩:=List.getElem_of_mem he
        obtain ⟨hi',ek,ev⟩:=MapRel.at i hi q4
        have hr : (execOp ρ' o).run P w = .ok (.value (.tuple #[.bool true,(leftOf es seen).toList[i].key,(leftOf es seen).toList[i].val])) (w1.putObj r (.mapIter (some b) since (seen.push (leftOf es seen).toList[i].born) c)):=by
          simp only [execOp,ho,hm,hrun,Result.andThen,Sem.run_bind,Sem.run]
          rfl
        rw [hr]
        have hs1 : SRel Γ G s w1:=by
          rcases hw1 with rfl | rfl
          · exact hs
          · exact hs.drew
        have m2' : w1.heap[r]? = some (.mapIter (some b) since seen c0):=by
          rcases hw1 with rfl | rfl <;> exact m2
        have hmem : (leftOf es seen).toList[i] ∈ es.toList:=(Go.mem_left he).1
        refine ⟨G,_,_,.refl G,hs1.putM (m':=.iter b es c (left.eraseIdx i) (some left[i])) hl m2' ⟨since,_,c,rfl,q1,q3,q3,?_,?_⟩,?_,k1 i hi'⟩
        · rw [leftOf_push hst hi]
          exact MapRel.erase i q4
        · intro k v hkv
          simp only [Option.some.injEq] at hkv
          rw [hkv] at ek ev
          exact ⟨_,hmem,seen,rfl,rfl,ek.symm,ev⟩
        · simp only [VRel]
          exact ⟨_,rfl,⟨_,_,rfl,rfl,⟨_,_,rfl,ek.symm,⟨_,_,rfl,ev,rfl⟩⟩⟩⟩
    · exact h.elim
  · exact h.elim
theorem aeff_entry {ρ : Operand→AV} {ρ' : Operand→Value} {K : AV→AS→Prop} {o : Oper} {x : Operand} (ho : o.op = .entry x) (h : aeff P Γ ρ s K (.entry x)) (hρ : ∀ x,VRel G (ρ x) (ρ' x)) (hs : SRel Γ G s w) : OpRes P Γ G K ((execOp ρ' o).run P w):=by
  have hm:=hρ x
  simp only [aeff] at h
  split at h
  · rename_i r h1
    rw [aiter_some h1] at hm
    simp only [VRel] at hm
    split at h
    · rename_i b es c left k v hl
      obtain ⟨l,hf,k0⟩:=h
      obtain ⟨_,_,m2,since,seen,c0,rfl,q1,q2,q3,q4,q5⟩:=hs.maps r _ hl
      obtain ⟨_,_,n2,rfl,hst,n3⟩:=hs.maps b _ hf
      obtain ⟨e,he,seen',rfl,rfl,a3,a4⟩:=q5 k v rfl
      have hrun:=run_entry_at (P:=P) w r b since seen' es c0 e m2 n2 he ((MapKept.stamped_iff es c0).1 hst).2.1
      have hr : (execOp ρ' o).run P w = .ok (.value (.tuple #[e.key,e.val])) w:=by
        simp [execOp,ho,hm,hrun,Result.andThen]
      rw [hr]
      refine ⟨G,_,_,.refl G,hs,?_,k0⟩
      simp only [VRel]
      exact ⟨_,rfl,⟨_,_,rfl,a3,⟨_,_,rfl,a4,rfl⟩⟩⟩
    · exact h.elim
  · exact h.elim
theorem MapRel.len {G : Gh} : ∀ {l : List (Value × AV)} {es : List MapEntry},MapRel G l es→es.length = l.length
  | [],es,k=>by simp only [MapRel] at k; subst k; rfl
  | (q,v) :: l,es,k=>by
    simp only [MapRel] at k
    obtain ⟨e,es',rfl,_,_,h4⟩:=k
    simp [MapRel.len h4]
theorem aeff_len {ρ : Operand→AV} {ρ' : Operand→Value} {K : AV→AS→Prop} {args : Array Operand} {argTypes : Array TypeId} {o : Oper} (ho : o.op = .call { callee:=.builtin .len,args,argTypes })
    (h : aeff P Γ ρ s K (.call { callee:=.builtin .len,args,argTypes })) (hρ : ∀ x,VRel G (ρ x) (ρ' x)) (hs : SRel Γ G s w) : OpRes P Γ G K ((execOp ρ' o).run P w):=by
  simp only [aeff] at h
  split at h
  · rename_i x T ha ht
    have hm:=hρ x
    split at h
    · rename_i kt et b hT h1
      rw [amOf_some h1] at hm
      simp only [VRel] at hm
      split at h
      · rename_i l hl
        obtain ⟨es,c,m2,_,m3⟩:=hs.mapAt hl
        have ha' : args = #[x]:=by apply Array.toList_inj.1; simpa using ha
        have ht' : argTypes = #[T]:=by apply Array.toList_inj.1; simpa using ht
        have hlen : (Builtin.len_ #[T] o.type #[.map (some b)]).run P w = .ok (.int .i64 l.length) w:=by
          have he : es.size = l.length:=by simpa using m3.len
          simp [Builtin.len_,run_underlying hT,run_getObj_map w b es c m2,goInt,he]
        rw [run_execOp_builtin ho]
        subst ha' ht'
        simp only [builtin]
        refine opres_value ⟨G,.int .i64 l.length,_,_,_,?_,.refl G,hs,by simp only [VRel],h⟩
        simpa [hm] using hlen
      · exact h.elim
    · exact h.elim
  · exact h.elim
theorem aeff_sound {ρ : Operand→AV} {ρ' : Operand→Value} {K : AV→AS→Prop} (o : Oper) (h : aeff P Γ ρ s K o.op) (hρ : ∀ x,VRel G (ρ x) (ρ' x)) (hs : SRel Γ G s w) : OpRes P Γ G K ((execOp ρ' o).run P w):=by
  cases hop : o.op <;> rw [hop] at h <;> try (simp only [aeff] at h; done)
  case load T x=>exact aeff_load hop h hρ hs
  case store T x y=>exact aeff_store hop h hρ hs
  case alloc T=>exact aeff_alloc hop h hs
  case box T x=>exact aeff_box hop h hρ hs
  case makeSlice T x y=>exact aeff_makeSlice hop h hρ hs
  case makeMap T r =>
    cases r with
    | none=>exact aeff_makeMap hop h hs
    | some r=>simp only [aeff] at h
  case lookup T m k ok=>exact aeff_lookup hop h hρ hs
  case mapUpdate T m k v=>exact aeff_mapUpdate hop h hρ hs
  case range T x=>exact aeff_range hop h hρ hs
  case next x b =>
    cases b with
    | false=>exact aeff_next hop h hρ hs
    | true=>simp only [aeff] at h
  case entry x=>exact aeff_entry hop h hρ hs
  case call c =>
    obtain ⟨callee,args,argTypes⟩:=c
    cases callee with
    | value f=>exact aeff_call hop h hρ hs
    | invoke r m=>simp only [aeff] at h
    | builtin b =>
      cases b <;> try (simp only [aeff] at h; done)
      case append=>exact aeff_append hop h hρ hs
      case copy=>exact aeff_copy hop h hρ hs
      case len=>exact aeff_len hop h hρ hs
theorem astep_sound {ρ : Operand→AV} {ρ' : Operand→Value} {K : AV→AS→Prop} (o : Oper) (h : astep P Γ ρ s K o.op) (hρ : ∀ x,VRel G (ρ x) (ρ' x)) (hs : SRel Γ G s w) : OpRes P Γ G K ((execOp ρ' o).run P w):=by
  unfold astep at h
  split at h
  · rename_i r hr
    obtain ⟨G',v,w',h1,h2,h3,h4⟩:=aval_sound o hr hρ hs
    rw [h1]
    exact ⟨G',r,s,h2,h3,h4,h⟩
  · exact aeff_sound o h hρ hs
abbrev Env:=Nat→AV
def aeval (Γ : Nat→List AV) (E : Env) : Operand→AV
  | .tmp t=>E t
  | .const v=>.v v
  | .global g=>.rop (Γ g)
  | .func f=>.v (.func (.func f) #[] #[])
structure Rel (Γ : Nat→List AV) (N : Nat) (G : Gh) (E : Env) (s : AS) (a : Act) (w : World) : Prop where
  st : SRel Γ G s w
  size : a.tmps.size = N
  tmps : ∀ i,VRel G (E i) (a.tmps.getD i undef)
  defers : a.defers = G.df
theorem Rel.eval {N : Nat} {E : Env} {a : Act} (h : Rel Γ N G E s a w) (x : Operand) : VRel G (aeval Γ E x) (a.eval x):=by
  cases x with
  | tmp t=>exact h.tmps t
  | const v=>simp [aeval,Act.eval,VRel]
  | global g =>
    obtain ⟨vs,h1,h2⟩:=h.st.glob g
    simp only [aeval,Act.eval,VRel]
    exact ⟨g,0,vs,rfl,h1,h2⟩
  | func f=>simp [aeval,Act.eval,VRel]
def updO (E : Env) : Option Tmp→AV→Env
  | some d,v=>upd E d v
  | none,_=>E
theorem Rel.put {N : Nat} {E : Env} {a : Act} {G' : Gh} {s' : AS} {w' : World} {r : AV} {v : Value} (h : Rel Γ N G E s a w) (hle : G.le G') (hs : SRel Γ G' s' w') (hv : VRel G' r v) {dst : Option Tmp} (hd : ∀ d,dst = some d→d < N) :
    Rel Γ N G' (updO E dst r) s' (a.put dst v) w':=by
  cases dst with
  | none=>exact ⟨hs,h.size,fun i=>VRel.mono hle _ _ (h.tmps i),h.defers.trans hle.df.symm⟩
  | some d =>
    refine ⟨hs,by simp [Act.put,h.size],fun i=>?_,h.defers.trans hle.df.symm⟩
    simp only [updO,upd,Act.put]
    split
    · rename_i e
      subst e
      have : i < a.tmps.size:=by rw [h.size]; exact hd i rfl
      simpa [Array.getD,this] using hv
    · rename_i e
      have:=VRel.mono hle _ _ (h.tmps i)
      simp only [Array.getD_eq_getD_getElem?] at this ⊢
      rw [Array.getElem?_setIfInBounds_ne (by omega)]
      exact this
end Go.AM
namespace Go.AM
open Go Go.RowKit
def fen (R : Option Nat) : Fence:={ Fence.wide with round:=R }
variable {rd : Option Nat} {P : Program} {Γ : Nat→List AV} {G : Gh} {s : AS} {w : World}
theorem aappend_mono {e : TypeId} {x : AV} {m : Nat} {ds : List AV} {K K' : AV→AS→Prop} (hk : ∀ r s',K r s'→K' r s') (h : aappend P e x m ds s K) : aappend P e x m ds s K':=by
  unfold aappend at *
  split at h
  · split at h
    · rename_i hm; rw [if_pos hm]; exact hk _ _ h
    · rename_i hm; rw [if_neg hm]; exact ⟨h.1,h.2.1,fun t ht=>hk _ _ (h.2.2 t ht)⟩
  · split at h
    · rename_i hm; simp only [if_pos hm]; exact hk _ _ h
    · rename_i hm
      simp only [if_neg hm]
      obtain ⟨h1,h2,h3,h4,h5⟩:=h
      refine ⟨h1,h2,h3,h4,?_⟩
      split at h5
      · exact fun t ht=>hk _ _ (h5 t ht)
      · exact fun t ht=>hk _ _ (h5 t ht)
      · exact ⟨h5.1,hk _ _ h5.2⟩
      · exact h5.elim
      · exact h5.elim
  · exact h
theorem amade_mono {e xT : TypeId} {x y : AV} {K K' : AV→AS→Prop} (hk : ∀ r s',K r s'→K' r s') (h : amade P e xT x y s K) : amade P e xT x y s K':=by
  obtain ⟨n,xS,k,sz,m,cs,sp,h1,h2,h3,h4,h5,h6,h7,h8,h9,ha⟩:=h
  exact ⟨n,xS,k,sz,m,cs,sp,h1,h2,h3,h4,h5,h6,h7,h8,h9,aappend_mono hk ha⟩
theorem aeff_mono {ρ : Operand→AV} {K K' : AV→AS→Prop} (hk : ∀ r s',K r s'→K' r s') : ∀ {op : Op},aeff P Γ ρ s K op→aeff P Γ ρ s K' op:=by
  intro op h
  cases op <;> try (simp only [aeff] at h; done)
  case load T x =>
    simp only [aeff] at h ⊢
    split at h
    · split at h
      · refine ⟨h.1,?_⟩
        have h2:=h.2
        split at h2
        · exact hk _ _ h2
        · exact h2
      · exact h
    · exact h
  case store T x y =>
    simp only [aeff] at h ⊢
    split at h
    · split at h
      · exact ⟨h.1,h.2.1,h.2.2.1,h.2.2.2.1,hk _ _ h.2.2.2.2⟩
      · exact h
    · exact h
  case alloc T =>
    simp only [aeff] at h ⊢
    split at h
    · exact fun o ho=>hk _ _ (h o ho)
    · exact h
  case box T x =>
    simp only [aeff] at h ⊢
    exact fun o ho=>hk _ _ (h o ho)
  case makeMap T r =>
    cases r with
    | none=>simp only [aeff] at h ⊢; exact fun b hb=>hk _ _ (h b hb)
    | some r=>simp only [aeff] at h
  case range T x =>
    simp only [aeff] at h ⊢
    split at h
    · split at h
      · exact fun es c r hr=>hk _ _ (h es c r hr)
      · exact h
    · exact h
  case next x b =>
    cases b with
    | true=>simp only [aeff] at h
    | false =>
      simp only [aeff] at h ⊢
      split at h
      · split at h
        · obtain ⟨l,h1,h2,h3⟩:=h
          exact ⟨l,h1,fun e=>hk _ _ (h2 e),fun i hi=>hk _ _ (h3 i hi)⟩
        · exact h
      · exact h
  case entry x =>
    simp only [aeff] at h ⊢
    split at h
    · split at h
      · obtain ⟨l,h1,h2⟩:=h
        exact ⟨l,h1,hk _ _ h2⟩
      · exact h
    · exact h
  case lookup T m k ok =>
    simp only [aeff] at h ⊢
    split at h
    · split at h
      · split at h
        · refine ⟨h.1,?_⟩
          have h2:=h.2
          split at h2
          · exact hk _ _ h2
          · exact hk _ _ h2
          · exact h2
        · exact h
      · exact h
    · exact h
  case mapUpdate T m k v =>
    simp only [aeff] at h ⊢
    split at h
    · split at h
      · split at h
        · refine ⟨h.1,?_⟩
          have h2:=h.2
          split at h2
          · exact hk _ _ h2
          · exact h2
        · exact h
      · exact h
    · exact h
  case makeSlice T x y =>
    simp only [aeff] at h ⊢
    split at h
    · split at h
      · obtain ⟨h1,h2,h3,h4,h5,h6,h7⟩:=h
        exact ⟨h1,h2,h3,h4,h5,h6,fun o ho=>hk _ _ (h7 o ho)⟩
      · exact h
    · exact h
  case call c =>
    obtain ⟨callee,args,argTypes⟩:=c
    cases callee with
    | value f =>
      simp only [aeff] at h ⊢
      split at h
      · exact ⟨h.1,h.2.1,h.2.2.1,h.2.2.2.mono hk⟩
      · exact ⟨h.1,h.2.mono hk⟩
      · exact h
    | invoke r m=>simp only [aeff] at h
    | builtin b =>
      cases b <;> try (simp only [aeff] at h; done)
      case append =>
        simp only [aeff] at h ⊢
        split at h
        · split at h
          · split at h
            · exact ⟨h.1,h.2.1,h.2.2.1,aappend_mono hk h.2.2.2⟩
            · exact amade_mono hk h
          · exact h
        · exact h
      case len =>
        simp only [aeff] at h ⊢
        split at h
        · split at h
          · split at h
            · exact hk _ _ h
            · exact h
          · exact h
        · exact h
      case copy =>
        simp only [aeff] at h ⊢
        split at h
        · split at h
          · split at h
            · split at h
              · exact ⟨h.1,h.2.1,h.2.2.1,hk _ _ h.2.2.2⟩
              · exact h
            · exact h
          · exact h
        · exact h
theorem astep_mono {ρ : Operand→AV} {K K' : AV→AS→Prop} (hk : ∀ r s',K r s'→K' r s') {op : Op} (h : astep P Γ ρ s K op) : astep P Γ ρ s K' op:=by
  unfold astep at *
  split at h
  · exact hk _ _ h
  · exact aeff_mono hk h
def gdst (ops : Array Oper) (j : Nat) : Option Tmp:=(ops[j]?).bind (·.dst)
def AX (P : Program) (Γ : Nat→List AV) (N : Nat) (ops : Array Oper) : List Oper→(Env→AS→Prop)→Env→AS→Prop
  | [],K,E,s=>K E s
  | o :: rest,K,E,s =>
    (∀ d,o.dst = some d→d < N) ∧
    match o.guard with
    | none=>astep P Γ (aeval Γ E) s (fun r s'=>AX P Γ N ops rest K (updO E o.dst r) s') o.op
    | some (j,want) =>
      match gdst ops j with
      | none=>False
      | some d =>
        match E d with
        | .v (.bool t) =>
          if t = want then astep P Γ (aeval Γ E) s (fun r s'=>AX P Γ N ops rest K (updO E o.dst r) s') o.op
          else AX P Γ N ops rest K (updO E o.dst (.v undef)) s
        | .v (.tuple _)=>AX P Γ N ops rest K (updO E o.dst (.v undef)) s
        | _=>False
theorem AX_mono {N : Nat} {ops : Array Oper} : ∀ (L : List Oper) {K K' : Env→AS→Prop} {E : Env} {s : AS},(∀ E s,K E s→K' E s)→AX P Γ N ops L K E s→AX P Γ N ops L K' E s
  | [],K,K',E,s,hk,h=>hk _ _ h
  | o :: L,K,K',E,s,hk,h=>by
    simp only [AX] at h ⊢
    refine ⟨h.1,?_⟩
    have h:=h.2
    split at h
    · exact astep_mono (fun r s' h=>AX_mono L hk h) h
    · split at h
      · exact h
      · split at h
        · split at h
          · rename_i ht; rw [if_pos ht]; exact astep_mono (fun r s' h=>AX_mono L hk h) h
          · rename_i ht; rw [if_neg ht]; exact AX_mono L hk h
        · exact AX_mono L hk h
        · exact h
def dsts (L : List Oper) : List Nat:=L.filterMap (·.dst)
theorem updO_other {E : Env} {dst : Option Tmp} {r : AV} {i : Nat} (h : dst≠some i) : updO E dst r i = E i:=by
  cases dst with
  | none=>rfl
  | some d =>
    have : i≠d:=fun e=>h (by rw [e])
    simp [updO,upd,this]
theorem AX_frame {N : Nat} {ops : Array Oper} : ∀ (L : List Oper) {K : Env→AS→Prop} {E : Env} {s : AS},AX P Γ N ops L K E s→AX P Γ N ops L (fun E' s'=>K E' s'∧∀ i,i ∉ dsts L→E' i = E i) E s
  | [],K,E,s,h=>⟨h,fun _ _=>rfl⟩
  | o :: L,K,E,s,h=>by
    simp only [AX] at h ⊢
    refine ⟨h.1,?_⟩
    have h:=h.2
    have step : ∀ (r : AV) (s' : AS),AX P Γ N ops L K (updO E o.dst r) s'→AX P Γ N ops L (fun E' s'=>K E' s'∧∀ i,i ∉ dsts (o :: L)→E' i = E i) (updO E o.dst r) s':=by
      intro r s' h
      refine AX_mono L (fun E' s' hE=>⟨hE.1,fun i hi=>?_⟩) (AX_frame L h)
      have h1 : i ∉ dsts L:=fun hm=>hi (by
        simp only [dsts,List.filterMap_cons] at hm ⊢
        split
        · exact hm
        · exact List.mem_cons_of_mem _ hm)
      have h2 : o.dst≠some i:=fun e=>hi (by simp [dsts,List.filterMap_cons,e])
      rw [hE.2 i h1,updO_other h2]
    split at h
    · exact astep_mono step h
    · split at h
      · exact h
      · split at h
        · split at h
          · rename_i ht; rw [if_pos ht]; exact astep_mono step h
          · rename_i ht; rw [if_neg ht]; exact step _ _ h
        · exact step _ _ h
        · exact h
theorem Oper.wp_of_res {N : Nat} {E : Env} {a : Act} {o : Oper} {K : AV→AS→Prop} {next : Act→World→Prop} {Q : Exit→Act→World→Prop} (hr : Rel Γ N G E s a w) (hd : ∀ d,o.dst = some d→d < N)
    (h : OpRes P Γ G K ((execOp a.eval o).run P w)) (hn : ∀ G' r s' a' w',G.le G'→Rel Γ N G' (updO E o.dst r) s' a' w'→K r s'→next a' w') : o.wpIn (fen rd) 0 P a w next Q:=by
  refine ⟨fun _ _=>trivial,?_⟩
  have hnd : ∀ c,o.op≠.defer c:=by
    intro c hc
    simp only [execOp,hc,Sem.run_bind] at h
    cases hh : (resolve a.eval c o.type).run P w <;> simp [hh,OpRes,Result.andThen] at h
  rw [Oper.semAt_eq _ _ _ hnd]
  generalize (execOp a.eval o).run P w = R at h
  cases R with
  | ok n w' =>
    cases n <;> simp only [OpRes] at h
    case value v =>
      obtain ⟨G',r,s',h1,h2,h3,h4⟩:=h
      simp only [Oper.uponIn]
      exact hn G' r s' _ _ h1 (hr.put h1 h2 h3 hd) h4
    case skip =>
      obtain ⟨G',s',h1,h2,h3⟩:=h
      simp only [Oper.uponIn]
      exact hn G' (.v undef) s' _ _ h1 (hr.put h1 h2 (by simp [VRel]) hd) h3
    case enter f args =>
      simp only [Oper.uponIn]
      refine ⟨(fun e=>by cases e),CallsIn.mono (F:=Fence.wide) (callsIn_wide.2 h) ?_⟩
      rintro e w'' ⟨G',r,v,s',rfl,h1,h2,h3,h4⟩
      exact hn G' r s' _ _ h1 (hr.put h1 h2 h3 hd) h4
  | halt x w'=>simp only [OpRes] at h
theorem wanted_none {o : Oper} {y : Nat→Option Bool} (h : o.guard = none) : Region.wanted o y = true:=by simp [Region.wanted,h]
theorem yielded_of {N : Nat} {E : Env} {a : Act} {ops : Array Oper} {j d : Nat} {t : Bool} (hr : Rel Γ N G E s a w) (hj : gdst ops j = some d) (hE : E d = .v (.bool t)) : yielded ops a.tmps j = some t:=by
  have:=hr.tmps d
  rw [hE] at this
  simp only [VRel] at this
  unfold gdst at hj
  simp only [yielded,hj,Option.bind_some]
  rw [Array.getD_eq_getD_getElem?] at this
  cases hh : a.tmps[d]? with
  | none=>rw [hh] at this; simp [undef] at this
  | some v=>rw [hh] at this; simp at this; rw [this]
theorem yielded_none {N : Nat} {E : Env} {a : Act} {ops : Array Oper} {j d : Nat} {c : Array Value} (hr : Rel Γ N G E s a w) (hj : gdst ops j = some d) (hE : E d = .v (.tuple c)) : yielded ops a.tmps j = none:=by
  have:=hr.tmps d
  rw [hE] at this
  simp only [VRel] at this
  unfold gdst at hj
  simp only [yielded,hj,Option.bind_some]
  rw [Array.getD_eq_getD_getElem?] at this
  cases hh : a.tmps[d]? with
  | none=>rfl
  | some v=>rw [hh] at this; simp at this; rw [this]
theorem AX_step {N : Nat} {E : Env} {a : Act} {ops : Array Oper} {i : Nat} {o : Oper} {L : List Oper} {K : Env→AS→Prop} {Q : Exit→Act→World→Prop} {next : Act→World→Prop} (ho : ops[i]? = some o)
    (h : AX P Γ N ops (o :: L) K E s) (hr : Rel Γ N G E s a w) (hn : ∀ G' E' s' a' w',G.le G'→Rel Γ N G' E' s' a' w'→AX P Γ N ops L K E' s'→next a' w') : wpOpIn (fen rd) 0 P ops Q i next a w:=by
  simp only [AX] at h
  obtain ⟨hd,h⟩:=h
  simp only [wpOpIn,ho]
  split at h
  · rename_i hg
    rw [if_pos (wanted_none hg)]
    exact (Oper.wp_of_res hr hd (astep_sound o h hr.eval hr.st) fun G' r s' a' w' h1 h2 h3=>hn G' _ s' a' w' h1 h2 h3)
  · rename_i j want hg
    split at h
    · exact h.elim
    · rename_i d hj
      split at h
      · rename_i t hE
        have hy:=yielded_of hr hj hE
        have hw : Region.wanted o (yielded ops a.tmps) = (t == want):=by simp [Region.wanted,hg,hy]
        split at h
        · rename_i ht
          rw [if_pos (by rw [hw]; simpa using ht)]
          exact (Oper.wp_of_res hr hd (astep_sound o h hr.eval hr.st) fun G' r s' a' w' h1 h2 h3=>hn G' _ s' a' w' h1 h2 h3)
        · rename_i ht
          rw [if_neg (by rw [hw]; simpa using ht)]
          exact ⟨fun _ _=>trivial,hn G _ s _ _ (.refl G) (hr.put (.refl G) hr.st (by simp [VRel]) hd) h⟩
      · rename_i c hE
        have hy:=yielded_none hr hj hE
        have hw : Region.wanted o (yielded ops a.tmps) = false:=by simp [Region.wanted,hg,hy]
        rw [if_neg (by rw [hw]; simp)]
        exact ⟨fun _ _=>trivial,hn G _ s _ _ (.refl G) (hr.put (.refl G) hr.st (by simp [VRel]) hd) h⟩
      · exact h.elim
theorem AX_wpOps {N : Nat} {ops : Array Oper} {Q : Exit→Act→World→Prop} {K : Env→AS→Prop} : ∀ (L : List Oper) (I : List Nat) {G : Gh} {E : Env} {s : AS} {a : Act} {w : World},I.map (ops[·]?) = L.map some→AX P Γ N ops L K E s→Rel Γ N G E s a w →
    (∀ G' E' s' a' w',G.le G'→Rel Γ N G' E' s' a' w'→K E' s'→Q .normal a' w')→wpOpsIn (fen rd) 0 P ops Q I a w
  | [],I,G,E,s,a,w,hI,h,hr,hq=>by
    have : I = []:=by simpa using hI
    subst this
    exact hq G E s a w (.refl G) hr h
  | o :: L,I,G,E,s,a,w,hI,h,hr,hq=>by
    cases I with
    | nil=>simp at hI
    | cons i I =>
      simp only [List.map_cons,List.cons.injEq] at hI
      rw [wpOpsIn_cons]
      exact AX_step hI.1 h hr fun G' E' s' a' w' h1 h2 h3=>AX_wpOps L I hI.2 h3 h2 fun G'' E'' s'' a'' w'' k1 k2 k3=>hq G'' E'' s'' a'' w'' (h1.trans k1) k2 k3
def writes : Code→List Nat
  | .region _ ops _=>dsts ops.toList
  | .seq a b=>writes a ++ writes b
  | .cond _ a b=>writes a ++ writes b
  | .block _ a=>writes a
  | .loop a=>writes a
  | .scope a=>writes a
  | .rangeFunc _ ps a b=>ps.toList ++ writes a ++ writes b
  | _=>[]
def AWp (P : Program) (Γ : Nat→List AV) (N : Nat) (c : Code) (Q : Exit→Env→AS→Prop) (E : Env) (s : AS) : Prop :=
  ∀ (G : Gh) (a : Act) (w : World),Rel Γ N G E s a w→∀ {rd : Option Nat},
    c.wpIn (fen rd) 0 P (fun e a' w'=>∃ G' E' s',G.le G'∧Rel Γ N G' E' s' a' w'∧Q e E' s'∧∀ i,i ∉ writes c→E' i = E i) a w
section rules
variable {N : Nat} {E : Env} {Q : Exit→Env→AS→Prop}
theorem AWp.mono {c : Code} {Q' : Exit→Env→AS→Prop} (h : AWp P Γ N c Q E s) (k : ∀ e E' s',(∀ i,i ∉ writes c→E' i = E i)→Q e E' s'→Q' e E' s') : AWp P Γ N c Q' E s :=
  fun G a w hr=>wpIn_mono (h G a w hr) fun e a' w' ⟨G',E',s',h1,h2,h3,h4⟩=>⟨G',E',s',h1,h2,k e E' s' h4 h3,h4⟩
theorem awp_skip (h : Q .normal E s) : AWp P Γ N .skip Q E s:=fun G a w hr=>wpIn_skip ⟨G,E,s,.refl G,hr,h,fun _ _=>rfl⟩
theorem awp_exit {id : Nat} (h : Q (.exit id) E s) : AWp P Γ N (.exit id) Q E s:=fun G a w hr=>wpIn_exit ⟨G,E,s,.refl G,hr,h,fun _ _=>rfl⟩
theorem awp_ret (h : Q .ret E s) : AWp P Γ N .ret Q E s:=fun G a w hr=>wpIn_ret ⟨G,E,s,.refl G,hr,h,fun _ _=>rfl⟩
def thenQ (next : Env→AS→Prop) (Q : Exit→Env→AS→Prop) : Exit→Env→AS→Prop
  | .normal,E,s=>next E s
  | e,E,s=>Q e E s
theorem awp_seq {x y : Code} (h : AWp P Γ N x (thenQ (AWp P Γ N y Q) Q) E s) : AWp P Γ N (.seq x y) Q E s:=by
  intro G a w hr
  refine wpIn_seq (wpIn_mono (h G a w hr) ?_)
  rintro e a' w' ⟨G',E',s',h1,h2,h3,h4⟩
  have hw : ∀ i,i ∉ writes (.seq x y)→E' i = E i:=fun i hi=>h4 i (fun hm=>hi (by simp [writes,hm]))
  cases e <;> simp only [Exit.then,thenQ] at h3 ⊢
  case normal =>
    refine wpIn_mono (h3 G' a' w' h2) ?_
    rintro e a'' w'' ⟨G'',E'',s'',k1,k2,k3,k4⟩
    exact ⟨G'',E'',s'',h1.trans k1,k2,k3,fun i hi=>by rw [k4 i (fun hm=>hi (by simp [writes,hm])),hw i hi]⟩
  all_goals exact ⟨G',E',s',h1,h2,h3,hw⟩
theorem awp_cond {c : Operand} {x y : Code} {t : Bool} (hc : aeval Γ E c = .v (.bool t)) (h : AWp P Γ N (if t = true then x else y) Q E s) : AWp P Γ N (.cond c x y) Q E s:=by
  intro G a w hr
  have:=hr.eval c
  rw [hc] at this
  simp only [VRel] at this
  intro rd
  refine wpIn_cond this ?_
  cases t
  · refine wpIn_mono (h G a w hr) ?_
    rintro e a' w' ⟨G',E',s',h1,h2,h3,h4⟩
    exact ⟨G',E',s',h1,h2,h3,fun i hi=>h4 i (fun hm=>hi (by simp at hm; simp [writes,hm]))⟩
  · refine wpIn_mono (h G a w hr) ?_
    rintro e a' w' ⟨G',E',s',h1,h2,h3,h4⟩
    exact ⟨G',E',s',h1,h2,h3,fun i hi=>h4 i (fun hm=>hi (by simp at hm; simp [writes,hm]))⟩
theorem awp_cond_true {c : Operand} {x y : Code} (hc : aeval Γ E c = .v (.bool true)) (h : AWp P Γ N x Q E s) : AWp P Γ N (.cond c x y) Q E s:=awp_cond hc h
theorem awp_cond_false {c : Operand} {x y : Code} (hc : aeval Γ E c = .v (.bool false)) (h : AWp P Γ N y Q E s) : AWp P Γ N (.cond c x y) Q E s:=awp_cond hc h
theorem awp_cond_split {c : Operand} {x y : Code} {t : Bool} (hc : aeval Γ E c = .v (.bool t)) (h1 : t = true→AWp P Γ N x Q E s) (h2 : t = false→AWp P Γ N y Q E s) : AWp P Γ N (.cond c x y) Q E s:=by
  cases t
  · exact awp_cond hc (h2 rfl)
  · exact awp_cond hc (h1 rfl)
def blockQ (id : Nat) (Q : Exit→Env→AS→Prop) : Exit→Env→AS→Prop
  | .exit id',E,s=>if id' = id then Q .normal E s else Q (.exit id') E s
  | e,E,s=>Q e E s
theorem awp_block {id : Nat} {c : Code} (h : AWp P Γ N c (blockQ id Q) E s) : AWp P Γ N (.block id c) Q E s:=by
  intro G a w hr
  refine wpIn_block (wpIn_mono (h G a w hr) ?_)
  rintro e a' w' ⟨G',E',s',h1,h2,h3,h4⟩
  cases e <;> simp only [Exit.inBlock,blockQ] at h3 ⊢
  case exit id' =>
    split at h3
    · rename_i hid; rw [if_pos hid]; exact ⟨G',E',s',h1,h2,h3,h4⟩
    · rename_i hid; rw [if_neg hid]; exact ⟨G',E',s',h1,h2,h3,h4⟩
  all_goals exact ⟨G',E',s',h1,h2,h3,h4⟩
theorem awp_region {id : Nat} {ops : Array Oper} (h : AX P Γ N ops ops.toList (fun E' s'=>Q .normal E' s') E s) : AWp P Γ N (.region id ops false) Q E s:=by
  intro G a w hr
  refine wpIn_region (AX_wpOps ops.toList _ ?_ (AX_frame _ h) hr ?_)
  · apply List.ext_getElem?
    intro i
    simp only [List.getElem?_map]
    by_cases hi : i < ops.size
    · simp [hi]
    · simp [hi]
  · intro G' E' s' a' w' h1 h2 h3
    exact ⟨G',E',s',h1,h2,h3.1,h3.2⟩
theorem exists_least (p : Nat→Prop) (h : ∃ n,p n) : ∃ n,p n∧∀ m,p m→n≤m:=by
  obtain ⟨n,hn⟩:=h
  induction n using Nat.strongRecOn with
  | _ n ih =>
    by_cases hm : ∃ m,m < n∧p m
    · obtain ⟨m,h1,h2⟩:=hm
      exact ih m h1 h2
    · exact ⟨n,hn,fun m h=>Nat.le_of_not_lt fun hlt=>hm ⟨m,hlt,h⟩⟩
theorem awp_loop {c : Code} (I : Env→AS→Prop) (μ : Env→AS→Nat) (h0 : I E s)
    (round : ∀ E' s',I E' s'→(∀ i,i ∉ writes c→E' i = E i)→AWp P Γ N c (thenQ (fun E'' s''=>I E'' s''∧μ E'' s'' < μ E' s') Q) E' s') : AWp P Γ N (.loop c) Q E s:=by
  intro G a w hr
  let Φ : Act→World→Gh→Env→AS→Prop:=fun a w G' E' s'=>G.le G'∧Rel Γ N G' E' s' a w∧I E' s'∧∀ i,i ∉ writes c→E' i = E i
  let C : Act→World→Nat→Prop:=fun a w n=>∃ G' E' s',Φ a w G' E' s'∧μ E' s' = n
  open Classical in
  let ν : Act→World→Nat:=fun a w=>if h : ∃ n,C a w n then Classical.choose (exists_least _ h) else 0
  intro rd
  refine wpIn_loop (fun a w=>∃ n,C a w n) ν ⟨_,G,E,s,⟨.refl G,hr,h0,fun _ _=>rfl⟩,rfl⟩ ?_
  intro a1 w1 hI
  have hν : ν a1 w1 = Classical.choose (exists_least _ hI):=by simp only [ν]; rw [dif_pos hI]
  obtain ⟨G1,E1,s1,⟨g1,g2,g3,g4⟩,g5⟩:=(Classical.choose_spec (exists_least _ hI)).1
  refine wpIn_mono (round E1 s1 g3 g4 G1 a1 w1 g2) ?_
  rintro e a' w' ⟨G',E',s',h1,h2,h3,h4⟩
  have hw : ∀ i,i ∉ writes c→E' i = E i:=fun i hi=>by rw [h4 i hi,g4 i hi]
  cases e <;> simp only [Exit.then,thenQ] at h3 ⊢
  case normal =>
    have hC : ∃ n,C a' w' n:=⟨_,G',E',s',⟨g1.trans h1,h2,h3.1,hw⟩,rfl⟩
    refine ⟨hC,?_⟩
    have : ν a' w' = Classical.choose (exists_least _ hC):=by simp only [ν]; rw [dif_pos hC]
    rw [this,hν,← g5]
    exact Nat.lt_of_le_of_lt ((Classical.choose_spec (exists_least _ hC)).2 _ ⟨G',E',s',⟨g1.trans h1,h2,h3.1,hw⟩,rfl⟩) h3.2
  all_goals exact ⟨G',E',s',g1.trans h1,h2,h3,hw⟩
end rules
end Go.AM
namespace Go.AM
open Go Go.RowKit
variable {P : Program} {Γ : Nat→List AV} {G : Gh} {s : AS} {w : World}
theorem aval_congr {ρ ρ' : Operand→AV} {op : Op} (h : ∀ x ∈ op.operands,ρ x = ρ' x) : aval P ρ op = aval P ρ' op:=by
  have pairs : ∀ ps : Array (Nat × Operand),(∀ x ∈ (ps.toList.map (·.2)).toArray,ρ x = ρ' x) →
      (ps.toList.map fun p=>(p.1,ρ p.2)) = (ps.toList.map fun p=>(p.1,ρ' p.2)):=fun ps hp =>
    List.map_congr_left fun p hm=>by rw [hp p.2 (by simpa using ⟨p.1,by simpa using hm⟩)]
  cases op <;> simp only [Op.operands] at h <;> simp only [aval]
  case build T ps=>rw [pairs ps h]
  case buildSlice T n ps=>rw [pairs ps h]
  case makeFunc fn first captured =>
    cases fn <;> simp only
    rw [List.map_congr_left (l:=captured.toList) fun x hx=>h x (by simp; exact .inr (by simpa using hx))]
  case call c =>
    obtain ⟨callee,args,argTypes⟩:=c
    cases callee <;> simp only
    rw [List.map_congr_left (l:=args.toList) fun x hx=>h x (by simp [Call.operands]; simpa using hx)]
  case slice t x lo hi mx=>cases lo <;> cases hi <;> cases mx <;> simp_all
  all_goals (first | rfl | (simp_all; done))
theorem aeff_congr {ρ ρ' : Operand→AV} {op : Op} {K : AV→AS→Prop} (h : ∀ x ∈ op.operands,ρ x = ρ' x) : aeff P Γ ρ s K op↔aeff P Γ ρ' s K op:=by
  cases op <;> simp only [Op.operands] at h <;> simp only [aeff]
  case call c =>
    obtain ⟨callee,args,argTypes⟩:=c
    have ha : args.toList.map ρ = args.toList.map ρ':=List.map_congr_left (l:=args.toList) fun x hx=>h x (by
      have : x ∈ args:=by simpa using hx
      simp [Call.operands,this])
    cases callee with
    | value f =>
      have hf : ρ f = ρ' f:=h f (by simp [Call.operands])
      simp only [aeff,ha,hf]
    | invoke r m=>simp only [aeff]
    | builtin b =>
      cases b <;> simp only [aeff]
      case len =>
        split
        · rename_i x T h1 h2
          rw [h1] at ha
          simp only [List.map_cons,List.map_nil,List.cons.injEq,and_true] at ha
          rw [ha]
        · exact Iff.rfl
      all_goals
        split
        · rename_i x y T xT h1 h2
          rw [h1] at ha
          simp only [List.map_cons,List.map_nil,List.cons.injEq,and_true] at ha
          rw [ha.1,ha.2]
        · exact Iff.rfl
  case makeMap T r=>cases r <;> exact Iff.rfl
  case next x b =>
    have hx:=h x (by simp)
    cases b
    · show aeff P Γ ρ s K (.next x false)↔aeff P Γ ρ' s K (.next x false)
      simp only [aeff,hx]
    · exact Iff.rfl
  all_goals (first | exact Iff.rfl | (simp_all; done))
theorem astep_congr {ρ ρ' : Operand→AV} {op : Op} {K : AV→AS→Prop} (h : ∀ x ∈ op.operands,ρ x = ρ' x) : astep P Γ ρ s K op↔astep P Γ ρ' s K op:=by
  unfold astep
  rw [aval_congr h]
  split
  · exact Iff.rfl
  · exact aeff_congr h
section
variable {N : Nat} {ops : Array Oper}
def pval (P : Program) (Γ : Nat→List AV) (ops : Array Oper) (o : Oper) (E : Env) : Option AV :=
  match o.guard with
  | none=>aval P (aeval Γ E) o.op
  | some (j,want) =>
    match gdst ops j with
    | none=>none
    | some d =>
      match E d with
      | .v (.bool t)=>if t = want then aval P (aeval Γ E) o.op else some (.v undef)
      | .v (.tuple _)=>some (.v undef)
      | _=>none
def AXp (P : Program) (Γ : Nat→List AV) (N : Nat) (ops : Array Oper) : List (Oper × Bool)→(Env→AS→Prop)→Env→AS→Prop
  | [],K,E,s=>K E s
  | (o,eff) :: rest,K,E,s =>
    if eff = true then AX P Γ N ops [o] (AXp P Γ N ops rest K) E s
    else (∀ d,o.dst = some d→d < N)∧match pval P Γ ops o E with | some v=>AXp P Γ N ops rest K (updO E o.dst v) s | none=>False
theorem AXp_mono : ∀ (L : List (Oper × Bool)) {K K' : Env→AS→Prop} {E : Env} {s : AS},(∀ E s,K E s→K' E s)→AXp P Γ N ops L K E s→AXp P Γ N ops L K' E s
  | [],K,K',E,s,hk,h=>hk _ _ h
  | (o,eff) :: L,K,K',E,s,hk,h=>by
    simp only [AXp] at h ⊢
    split at h
    · rename_i he; rw [if_pos he]; exact AX_mono _ (fun E s h=>AXp_mono L hk h) h
    · rename_i he
      rw [if_neg he]
      refine ⟨h.1,?_⟩
      have h:=h.2
      split at h
      · exact AXp_mono L hk h
      · exact h
theorem aeval_put {E : Env} {dst : Option Tmp} {v : AV} {x : Operand} (h : ∀ d,dst = some d→x≠.tmp d) : aeval Γ (updO E dst v) x = aeval Γ E x:=by
  cases x with
  | tmp t =>
    simp only [aeval]
    exact updO_other fun e=>h t e rfl
  | const v=>rfl
  | global g=>rfl
  | func f=>rfl
theorem updO_comm {E : Env} {d d' : Option Tmp} {v v' : AV} (h : ∀ x,d = some x→d'≠some x) : updO (updO E d v) d' v' = updO (updO E d' v') d v:=by
  cases d with
  | none=>rfl
  | some x =>
    cases d' with
    | none=>rfl
    | some y =>
      have : y≠x:=fun e=>h x rfl (by rw [e])
      funext i
      simp only [updO,upd]
      by_cases h1 : i = y
      · subst h1; simp [this]
      · simp [h1]
theorem looks_operand {o : Oper} {d : Tmp} (h : d ∉ o.looksAt ops) : ∀ x ∈ o.op.operands,x≠.tmp d:=by
  intro x hx e
  subst e
  exact h (List.mem_append_left _ (List.mem_filterMap.2 ⟨.tmp d,by simpa using hx,rfl⟩))
theorem looks_guard {o : Oper} {d : Tmp} {j : Nat} {want : Bool} (h : d ∉ o.looksAt ops) (hg : o.guard = some (j,want)) : gdst ops j≠some d:=by
  intro e
  refine h (List.mem_append_right _ ?_)
  simp only [hg]
  unfold gdst at e
  rw [e]
  simp
theorem pval_congr {o : Oper} {E E' : Env} (h : ∀ d,d ∈ o.looksAt ops→E' d = E d) : pval P Γ ops o E' = pval P Γ ops o E:=by
  have hop : ∀ x ∈ o.op.operands,aeval Γ E' x = aeval Γ E x:=fun x hx=>by
    cases x with
    | tmp t=>exact h t (List.mem_append_left _ (List.mem_filterMap.2 ⟨.tmp t,by simpa using hx,rfl⟩))
    | const v=>rfl
    | global g=>rfl
    | func f=>rfl
  unfold pval
  split
  · exact aval_congr hop
  · rename_i j want hg
    split
    · rfl
    · rename_i d hj
      have : E' d = E d:=h d (by
        by_cases hd : d ∈ o.looksAt ops
        · exact hd
        · exact absurd hj (looks_guard hd hg))
      rw [this]
      split
      · split
        · exact aval_congr hop
        · rfl
      · rfl
      · rfl
theorem AX_put {o : Oper} {E : Env} {K : Env→AS→Prop} {dst : Option Tmp} {v : AV} (hl : ∀ d,dst = some d→d ∉ o.looksAt ops) (hd : ∀ d,dst = some d→o.dst≠some d) :
    AX P Γ N ops [o] K (updO E dst v) s↔AX P Γ N ops [o] (fun E' s'=>K (updO E' dst v) s') E s:=by
  have hop : ∀ x ∈ o.op.operands,aeval Γ (updO E dst v) x = aeval Γ E x:=fun x hx=>aeval_put fun d h1 h2=>looks_operand (hl d h1) x hx h2
  have hc : ∀ r,updO (updO E dst v) o.dst r = updO (updO E o.dst r) dst v:=fun r=>updO_comm fun x h1 h2=>hd x h1 h2
  simp only [AX]
  refine and_congr_right fun _=>?_
  simp only [hc]
  split
  · exact astep_congr hop
  · rename_i j want hg
    split
    · exact Iff.rfl
    · rename_i d hj
      have hE : updO E dst v d = E d:=updO_other fun e=>looks_guard (hl d e) hg hj
      rw [hE]
      split
      · split
        · exact astep_congr hop
        · exact Iff.rfl
      · exact Iff.rfl
      · exact Iff.rfl
theorem AX_one_frame {o : Oper} {E : Env} {K : Env→AS→Prop} (h : AX P Γ N ops [o] K E s) : AX P Γ N ops [o] (fun E' s'=>K E' s'∧∀ i,o.dst≠some i→E' i = E i) E s:=by
  refine AX_mono _ (fun E' s' hE=>⟨hE.1,fun i hi=>hE.2 i ?_⟩) (AX_frame [o] h)
  cases hd : o.dst with
  | none=>simp [dsts,hd]
  | some d =>
    have : i≠d:=fun e=>hi (by rw [hd,e])
    simp [dsts,hd,this]
theorem AXp_AX {o : Oper} {eff : Bool} {L : List (Oper × Bool)} {E : Env} {K : Env→AS→Prop} (h : AXp P Γ N ops ((o,eff) :: L) K E s) : AX P Γ N ops [o] (AXp P Γ N ops L K) E s:=by
  simp only [AXp] at h
  split at h
  · exact h
  · simp only [AX]
    refine ⟨h.1,?_⟩
    have h:=h.2
    unfold pval at h
    cases hg : o.guard with
    | none =>
      simp only [hg] at h
      cases hv : aval P (aeval Γ E) o.op with
      | none=>simp [hv] at h
      | some v=>simp only [hv] at h; simp only [astep,hv]; exact h
    | some p =>
      obtain ⟨j,want⟩:=p
      simp only [hg] at h
      cases hj : gdst ops j with
      | none=>simp [hj] at h
      | some d =>
        simp only [hj] at h ⊢
        split
        · rename_i t hE
          simp only [hE] at h
          split
          · rename_i ht
            simp only [if_pos ht] at h
            cases hv : aval P (aeval Γ E) o.op with
            | none=>simp [hv] at h
            | some v=>simp only [hv] at h; simp only [astep,hv]; exact h
          · rename_i ht
            simp only [if_neg ht] at h
            exact h
        · rename_i c hE
          simp only [hE] at h
          exact h
        · rename_i hne hne2
          split at h
          · rename_i v hv
            split at hv
            · rename_i t hE
              exact absurd hE (hne t)
            · rename_i c hE
              exact absurd hE (hne2 c)
            · cases hv
          · exact h
theorem AX_one_some {o : Oper} {E : Env} {a : Act} {K : Env→AS→Prop} (h : AX P Γ N ops [o] K E s) (hr : Rel Γ N G E s a w) :
    ∃ G' E' s' a' w',Rel Γ N G' E' s' a' w'∧K E' s'∧∀ i,o.dst≠some i→E' i = E i:=by
  have h':=AX_one_frame h
  clear h
  simp only [AX] at h'
  obtain ⟨hd,h⟩:=h'
  have run : astep P Γ (aeval Γ E) s (fun r s'=>K (updO E o.dst r) s'∧∀ i,o.dst≠some i→updO E o.dst r i = E i) o.op→∃ G' E' s' a' w',Rel Γ N G' E' s' a' w'∧K E' s'∧∀ i,o.dst≠some i→E' i = E i:=by
    intro h
    have:=astep_sound o h hr.eval hr.st
    generalize (execOp a.eval o).run P w = R at this
    cases R with
    | ok n w' =>
      cases n <;> simp only [OpRes] at this
      case value v =>
        obtain ⟨G',r,s',h1,h2,h3,h4⟩:=this
        exact ⟨G',_,s',_,_,hr.put h1 h2 h3 hd,h4.1,h4.2⟩
      case skip =>
        obtain ⟨G',s',h1,h2,h3⟩:=this
        exact ⟨G',_,s',_,_,hr.put (v:=undef) h1 h2 (by simp [VRel]) hd,h3.1,h3.2⟩
      case enter f args =>
        obtain ⟨e,w'',fr,⟨G',r,v,s',_,h1,h2,h3,h4⟩,_⟩:=this []
        exact ⟨G',_,s',_,_,hr.put h1 h2 h3 hd,h4.1,h4.2⟩
    | halt x w'=>simp only [OpRes] at this
  split at h
  · exact run h
  · split at h
    · exact h.elim
    · split at h
      · split at h
        · exact run h
        · exact ⟨G,_,s,_,_,hr.put (v:=undef) (.refl G) hr.st (by simp [VRel]) hd,h.1,h.2⟩
      · exact ⟨G,_,s,_,_,hr.put (v:=undef) (.refl G) hr.st (by simp [VRel]) hd,h.1,h.2⟩
      · exact h.elim
def Apart (ops : Array Oper) (x y : Oper) : Prop:=x.apart ops y = true
theorem pval_later {y : Oper} {L2 : List (Oper × Bool)} {K : Env→AS→Prop} : ∀ (L1 : List (Oper × Bool)) {G : Gh} {E : Env} {s : AS} {a : Act} {w : World},(∀ x ∈ L1,Apart ops x.1 y)→AXp P Γ N ops (L1 ++ (y,false) :: L2) K E s→Rel Γ N G E s a w →
    (∀ d,y.dst = some d→d < N)∧∃ v,pval P Γ ops y E = some v
  | [],G,E,s,a,w,_,h,hr=>by
    simp only [List.nil_append,AXp,Bool.false_eq_true,if_false] at h
    refine ⟨h.1,?_⟩
    have h:=h.2
    split at h
    · rename_i v hv; exact ⟨v,hv⟩
    · exact h.elim
  | (x,ex) :: L1,G,E,s,a,w,hap,h,hr=>by
    obtain ⟨G',E',s',a',w',hr',hK,hf⟩:=AX_one_some (AXp_AX h) hr
    obtain ⟨h1,v,h2⟩:=pval_later L1 (fun x hx=>hap x (List.mem_cons_of_mem _ hx)) hK hr'
    refine ⟨h1,v,?_⟩
    rw [← h2]
    refine (pval_congr fun d hd=>hf d fun e=>?_).symm
    exact (Oper.apart_spec (hap (x,ex) (by simp))).1 d e hd
theorem AXp_first_pure {y : Oper} {L2 : List (Oper × Bool)} {K : Env→AS→Prop} {v : AV} : ∀ (L1 : List (Oper × Bool)) {E : Env} {s : AS},(∀ x ∈ L1,Apart ops x.1 y)→pval P Γ ops y E = some v→AXp P Γ N ops (L1 ++ (y,false) :: L2) K E s →
    AXp P Γ N ops (L1 ++ L2) K (updO E y.dst v) s
  | [],E,s,_,hv,h=>by
    simp only [List.nil_append,AXp,Bool.false_eq_true,if_false,hv] at h
    exact h.2
  | (x,ex) :: L1,E,s,hap,hv,h=>by
    obtain ⟨a1,a2,a3⟩:=Oper.apart_spec (hap (x,ex) (by simp))
    have hap' : ∀ x ∈ L1,Apart ops x.1 y:=fun x hx=>hap x (List.mem_cons_of_mem _ hx)
    have hv' : ∀ E' : Env,(∀ i,x.dst≠some i→E' i = E i)→pval P Γ ops y E' = some v:=fun E' hE=>by
      rw [pval_congr (E:=E) fun d hd=>hE d fun e=>a1 d e hd,hv]
    simp only [List.cons_append,AXp] at h ⊢
    split at h
    · rename_i he
      rw [if_pos he]
      refine (AX_put (fun d hd=>a3 d hd) (fun d hd e=>a2 d e hd)).2 ?_
      refine AX_mono _ (fun E' s' hE=>?_) (AX_one_frame h)
      exact AXp_first_pure L1 hap' (hv' E' hE.2) hE.1
    · rename_i he
      rw [if_neg he]
      refine ⟨h.1,?_⟩
      have h:=h.2
      rw [pval_congr (E:=E) fun d hd=>updO_other fun e=>a3 d e hd]
      split at h
      · rename_i u hu
        simp only [hu]
        rw [updO_comm (fun d h1 h2=>a2 d h2 h1)]
        exact AXp_first_pure L1 hap' (hv' _ fun i hi=>updO_other hi) h
      · exact h.elim
theorem AXp_first_eff {y : Oper} {L2 : List (Oper × Bool)} {K : Env→AS→Prop} : ∀ (L1 : List (Oper × Bool)) {E : Env} {s : AS},(∀ x ∈ L1,Apart ops x.1 y∧x.2 = false)→AXp P Γ N ops (L1 ++ (y,true) :: L2) K E s →
    AX P Γ N ops [y] (AXp P Γ N ops (L1 ++ L2) K) E s
  | [],E,s,_,h=>by simpa only [List.nil_append,AXp,if_true] using h
  | (x,ex) :: L1,E,s,hap,h=>by
    obtain ⟨hap0,hex⟩:=hap (x,ex) (by simp)
    simp only at hex
    subst hex
    obtain ⟨a1,a2,a3⟩:=Oper.apart_spec hap0
    have hap' : ∀ x ∈ L1,Apart ops x.1 y∧x.2 = false:=fun x hx=>hap x (List.mem_cons_of_mem _ hx)
    simp only [List.cons_append,AXp,Bool.false_eq_true,if_false] at h
    obtain ⟨h0,h⟩:=h
    split at h
    · rename_i v hv
      have h1:=AXp_first_eff L1 hap' h
      have h2:=(AX_put (fun d hd=>a1 d hd) (fun d hd=>a2 d hd)).1 h1
      refine AX_mono _ (fun E' s' hE=>?_) (AX_one_frame h2)
      simp only [List.cons_append,AXp,Bool.false_eq_true,if_false]
      refine ⟨h0,?_⟩
      rw [pval_congr (E:=E) fun d hd=>hE.2 d fun e=>a3 d e hd,hv]
      exact hE.1
    · exact h.elim
end
end Go.AM
