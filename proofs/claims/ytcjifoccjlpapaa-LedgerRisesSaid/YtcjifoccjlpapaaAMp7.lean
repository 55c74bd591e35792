/- An abstract machine for the model: abstract values, their relation to worlds, and the rules of its walk, each proved sound over the model; no condition. -/
import Derived.Test.YtcjifoccjlpapaaAMp6
import Derived.Shelf.Spec.SlicesInsertGrow
set_option linter.unusedSimpArgs false
set_option linter.unusedVariables false
set_option autoImplicit false
namespace Go.AM
open Go Go.RowKit
variable {rd : Option Nat} {P : Program} {Γ : Nat→List AV} {G : Gh} {s : AS} {w : World} {N : Nat}
theorem Views.append {a b c d : List AV} (h : Views Γ s a c) (k : Views Γ s b d) : Views Γ s (a ++ b) (c ++ d):=by
  intro G w us hs hv
  have hl:=hv.length
  have h1:=hv.take a.length
  have h2:=hv.drop a.length
  rw [List.take_left] at h1
  rw [List.drop_left] at h2
  have:=VRels.append (h G w _ hs h1) (k G w _ hs h2)
  rwa [List.take_append_drop] at this
theorem View.nilS : View Γ s nilS (.sl 1 0 [] .any):=fun G w u _ hv=>AV.weak_nil _ _ (by simpa [Go.AM.nilS,VRel] using hv)
theorem View.empty {sz : Nat} {sp : Sp} (h : sp = .full∨sp = .new) : View Γ s (.sl sz 0 [] sp) (.sl sz 0 [] .any):=by
  intro G w u hs hv
  simp only [VRel] at hv ⊢
  rcases hv with ⟨b,off,cap,vs,h1,h2,h3,h4,h5,h6⟩ | ⟨_,_,a,cap,h1,_⟩ | ⟨_,_,h1,_⟩
  · simp only [VRels] at h4
    subst h4
    exact .inl ⟨b,off,cap,[],h1,h2,h3,by simp [VRels],(fun j u hj=>by cases hj),trivial⟩
  · exact .inr (.inl ⟨trivial,trivial,a,cap,h1,by simp⟩)
  · rcases h with rfl | rfl <;> cases h1
def Settles (Γ : Nat→List AV) (s : AS) (x : AV) (s' : AS) (x' : AV) : Prop:=∀ G w u,SRel Γ G s w→VRel G x u→∃ G',G.le G'∧SRel Γ G' s' w∧VRel G' x' u
theorem Settles.refl (x : AV) : Settles Γ s x s x:=fun G _ _ hs hv=>⟨G,.refl G,hs,hv⟩
theorem Settles.trans {s1 s2 s3 : AS} {x y z : AV} (h : Settles Γ s1 x s2 y) (k : Settles Γ s2 y s3 z) : Settles Γ s1 x s3 z:=by
  intro G w u hs hv
  obtain ⟨G1,h1,h2,h3⟩:=h G w u hs hv
  obtain ⟨G2,k1,k2,k3⟩:=k G1 w u h2 h3
  exact ⟨G2,h1.trans k1,k2,k3⟩
theorem Settles.weak {x y : AV} (h : x.weak y) : Settles Γ s x s y:=fun G _ _ hs hv=>⟨G,.refl G,hs,h _ _ hv⟩
theorem Settles.le {s' : AS} (x : AV) (h : s'.le s) : Settles Γ s x s' x:=fun G _ _ hs hv=>⟨G,.refl G,hs.mono h,hv⟩
theorem SRel.reObj {o : Nat} {cs cs' : List AV} (h : SRel Γ G s w) (ho : s.objs o = some cs) (hw : ∀ vs,VRels G cs vs→VRels G cs' vs) : SRel Γ G (s.set o cs') w:=by
  refine ⟨h.ro,?_,h.objLt,h.inj,h.own,h.ownInj,h.ownLast,h.freshO,h.freshT,h.below,h.others,h.base,h.glob,h.soft,h.maps⟩
  intro o' ds hd
  by_cases e : o' = o
  · subst e
    rw [AS.set_objs_same] at hd
    cases hd
    obtain ⟨b,vs,h1,h2,h3,h4⟩:=h.objs o' cs ho
    exact ⟨b,vs,h1,hw vs h2,h3,h4⟩
  · rw [AS.set_objs_ne _ e] at hd
    exact h.objs o' ds hd
theorem Settles.cells {O : Nat} {A B : List AV} {a b : AV} (x : AV) (hO : s.objs O = some (A ++ a :: B)) (hw : a.weak b) : Settles Γ s x (s.set O (A ++ b :: B)) x:=by
  intro G w u hs hv
  refine ⟨G,.refl G,hs.reObj hO (fun vs h=>?_),hv⟩
  have hl:=h.length
  have h1:=h.take A.length
  have h2:=h.drop A.length
  rw [List.take_left] at h1
  rw [List.drop_left] at h2
  generalize hd : vs.drop A.length = ds at h2
  simp only [VRels] at h2
  obtain ⟨u1,us,rfl,h3,h4⟩:=h2
  rw [← List.take_append_drop A.length vs,hd]
  exact h1.append (by simp only [VRels]; exact ⟨u1,us,rfl,hw _ _ h3,h4⟩)
theorem Settles.inner {O o sz n cap : Nat} {A B cs rest : List AV} (x : AV) (hO : s.objs O = some (A ++ .osl o 0 sz n cap :: B)) (ho : s.objs o = some (cs ++ rest)) (hne : O≠o) (hl : cs.length = n * sz) :
    Settles Γ s x ((s.drop o).set O (A ++ .sl sz n cs .any :: B)) x:=by
  intro G w u hs hv
  obtain ⟨b,vs,h1,h2,h3,h4,h5⟩:=hs.freeze ho
  refine ⟨_,h3,h5.reObj (cs:=A ++ .osl o 0 sz n cap :: B) (by rw [AS.drop_objs,upd_ne _ _ hne]; exact hO) (fun us h=>?_),VRel.mono h3 _ _ hv⟩
  have k1:=h.take A.length
  have k2:=h.drop A.length
  rw [List.take_left] at k1
  rw [List.drop_left] at k2
  generalize hd : us.drop A.length = ds at k2
  simp only [VRels] at k2
  obtain ⟨u1,us1,rfl,k3,k4⟩:=k2
  rw [← List.take_append_drop A.length us,hd]
  refine k1.append ?_
  simp only [VRels]
  refine ⟨u1,us1,rfl,?_,k4⟩
  simp only [VRel] at k3 ⊢
  obtain ⟨b',q1,q2,q3⟩:=k3
  rw [h3.obj _ _ h1] at q1
  cases q1
  have q5:=h2.take cs.length
  rw [List.take_left] at q5
  refine .inl ⟨b,0,cap,_,q2,hl,q3,VRels.mono h3 _ _ q5,?_,trivial⟩
  intro j y hj
  rw [List.getElem?_take] at hj
  split at hj
  · exact h4 j y hj
  · cases hj
theorem Settles.outer {o sz n cap : Nat} {cs rest : List AV} (ho : s.objs o = some (cs ++ rest)) (hl : cs.length = n * sz) : Settles Γ s (.osl o 0 sz n cap) (s.drop o) (.sl sz n cs .any):=by
  intro G w u hs hv
  obtain ⟨b,vs,h1,h2,h3,h4,h5⟩:=hs.freeze ho
  refine ⟨_,h3,h5,?_⟩
  simp only [VRel] at hv ⊢
  obtain ⟨b',q1,q2,q3⟩:=hv
  rw [h1] at q1
  cases q1
  have q5:=h2.take cs.length
  rw [List.take_left] at q5
  refine .inl ⟨b,0,cap,_,q2,hl,q3,VRels.mono h3 _ _ q5,?_,trivial⟩
  intro j y hj
  rw [List.getElem?_take] at hj
  split at hj
  · exact h4 j y hj
  · cases hj
end Go.AM
namespace Go.AM
open Go Go.RowKit
variable {P : Program} {Γ : Nat→List AV} {N : Nat} {x y : List AV}
theorem Settles.made {s : AS} {o n cap : Nat} {cs : List AV} {sp : Sp} (ho : s.objs o = none) (hl : cs.length = n) : Settles Γ (s.set o cs) (.osl o 0 1 n cap) s (.sl 1 n cs .any):=by
  have:=Settles.outer (Γ:=Γ) (s:=s.set o cs) (o:=o) (sz:=1) (n:=n) (cap:=cap) (cs:=cs) (rest:=[]) (by rw [AS.set_objs_same,List.append_nil]) (by omega)
  rwa [AS.drop_set ho] at this
end Go.AM
