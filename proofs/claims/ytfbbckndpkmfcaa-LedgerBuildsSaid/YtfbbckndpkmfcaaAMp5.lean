/- An abstract machine for the model: abstract values, their relation to worlds, and the rules of its walk, each proved sound over the model; no condition. -/
import Derived.Test.YtfbbckndpkmfcaaAMp4
set_option linter.unusedSimpArgs false
set_option linter.unusedVariables false
set_option autoImplicit false
namespace Go.AM
open Go Go.RowKit
theorem ff1 (a : Bool) : (a = false)∨(a = true):=by cases a <;> simp
theorem ff2 (a b : Bool) : (a = false)∨(a = true∧b = false)∨(a = true∧b = true):=by
  cases a
  · exact .inl rfl
  · rcases ff1 b with h | h
    · exact .inr (.inl ⟨rfl,h⟩)
    · exact .inr (.inr (⟨rfl,h⟩))
theorem ff3 (a b c : Bool) : (a = false)∨(a = true∧b = false)∨(a = true∧b = true∧c = false)∨(a = true∧b = true∧c = true):=by
  cases a
  · exact .inl rfl
  · rcases ff2 b c with h | h | h
    · exact .inr (.inl ⟨rfl,h⟩)
    · exact .inr (.inr (.inl ⟨rfl,h⟩))
    · exact .inr (.inr (.inr (⟨rfl,h⟩)))
theorem ff4 (a b c d : Bool) : (a = false)∨(a = true∧b = false)∨(a = true∧b = true∧c = false)∨(a = true∧b = true∧c = true∧d = false)∨(a = true∧b = true∧c = true∧d = true):=by
  cases a
  · exact .inl rfl
  · rcases ff3 b c d with h | h | h | h
    · exact .inr (.inl ⟨rfl,h⟩)
    · exact .inr (.inr (.inl ⟨rfl,h⟩))
    · exact .inr (.inr (.inr (.inl ⟨rfl,h⟩)))
    · exact .inr (.inr (.inr (.inr (⟨rfl,h⟩))))
theorem ff5 (a b c d e : Bool) : (a = false)∨(a = true∧b = false)∨(a = true∧b = true∧c = false)∨(a = true∧b = true∧c = true∧d = false)∨(a = true∧b = true∧c = true∧d = true∧e = false)∨(a = true∧b = true∧c = true∧d = true∧e = true):=by
  cases a
  · exact .inl rfl
  · rcases ff4 b c d e with h | h | h | h | h
    · exact .inr (.inl ⟨rfl,h⟩)
    · exact .inr (.inr (.inl ⟨rfl,h⟩))
    · exact .inr (.inr (.inr (.inl ⟨rfl,h⟩)))
    · exact .inr (.inr (.inr (.inr (.inl ⟨rfl,h⟩))))
    · exact .inr (.inr (.inr (.inr (.inr (⟨rfl,h⟩)))))
theorem ff6 (a b c d e f : Bool) : (a = false)∨(a = true∧b = false)∨(a = true∧b = true∧c = false)∨(a = true∧b = true∧c = true∧d = false)∨(a = true∧b = true∧c = true∧d = true∧e = false)∨(a = true∧b = true∧c = true∧d = true∧e = true∧f = false)∨(a = true∧b = true∧c = true∧d = true∧e = true∧f = true):=by
  cases a
  · exact .inl rfl
  · rcases ff5 b c d e f with h | h | h | h | h | h
    · exact .inr (.inl ⟨rfl,h⟩)
    · exact .inr (.inr (.inl ⟨rfl,h⟩))
    · exact .inr (.inr (.inr (.inl ⟨rfl,h⟩)))
    · exact .inr (.inr (.inr (.inr (.inl ⟨rfl,h⟩))))
    · exact .inr (.inr (.inr (.inr (.inr (.inl ⟨rfl,h⟩)))))
    · exact .inr (.inr (.inr (.inr (.inr (.inr (⟨rfl,h⟩))))))
theorem ff7 (a b c d e f g : Bool) : (a = false)∨(a = true∧b = false)∨(a = true∧b = true∧c = false)∨(a = true∧b = true∧c = true∧d = false)∨(a = true∧b = true∧c = true∧d = true∧e = false)∨(a = true∧b = true∧c = true∧d = true∧e = true∧f = false)∨(a = true∧b = true∧c = true∧d = true∧e = true∧f = true∧g = false)∨(a = true∧b = true∧c = true∧d = true∧e = true∧f = true∧g = true):=by
  cases a
  · exact .inl rfl
  · rcases ff6 b c d e f g with h | h | h | h | h | h | h
    · exact .inr (.inl ⟨rfl,h⟩)
    · exact .inr (.inr (.inl ⟨rfl,h⟩))
    · exact .inr (.inr (.inr (.inl ⟨rfl,h⟩)))
    · exact .inr (.inr (.inr (.inr (.inl ⟨rfl,h⟩))))
    · exact .inr (.inr (.inr (.inr (.inr (.inl ⟨rfl,h⟩)))))
    · exact .inr (.inr (.inr (.inr (.inr (.inr (.inl ⟨rfl,h⟩))))))
    · exact .inr (.inr (.inr (.inr (.inr (.inr (.inr (⟨rfl,h⟩)))))))
theorem ff8 (a b c d e f g h : Bool) : (a = false)∨(a = true∧b = false)∨(a = true∧b = true∧c = false)∨(a = true∧b = true∧c = true∧d = false)∨(a = true∧b = true∧c = true∧d = true∧e = false)∨(a = true∧b = true∧c = true∧d = true∧e = true∧f = false)∨(a = true∧b = true∧c = true∧d = true∧e = true∧f = true∧g = false)∨(a = true∧b = true∧c = true∧d = true∧e = true∧f = true∧g = true∧h = false)∨(a = true∧b = true∧c = true∧d = true∧e = true∧f = true∧g = true∧h = true):=by
  cases a
  · exact .inl rfl
  · rcases ff7 b c d e f g h with h | h | h | h | h | h | h | h
    · exact .inr (.inl ⟨rfl,h⟩)
    · exact .inr (.inr (.inl ⟨rfl,h⟩))
    · exact .inr (.inr (.inr (.inl ⟨rfl,h⟩)))
    · exact .inr (.inr (.inr (.inr (.inl ⟨rfl,h⟩))))
    · exact .inr (.inr (.inr (.inr (.inr (.inl ⟨rfl,h⟩)))))
    · exact .inr (.inr (.inr (.inr (.inr (.inr (.inl ⟨rfl,h⟩))))))
    · exact .inr (.inr (.inr (.inr (.inr (.inr (.inr (.inl ⟨rfl,h⟩)))))))
    · exact .inr (.inr (.inr (.inr (.inr (.inr (.inr (.inr (⟨rfl,h⟩))))))))
theorem ff9 (a b c d e f g h i : Bool) : (a = false)∨(a = true∧b = false)∨(a = true∧b = true∧c = false)∨(a = true∧b = true∧c = true∧d = false)∨(a = true∧b = true∧c = true∧d = true∧e = false)∨(a = true∧b = true∧c = true∧d = true∧e = true∧f = false)∨(a = true∧b = true∧c = true∧d = true∧e = true∧f = true∧g = false)∨(a = true∧b = true∧c = true∧d = true∧e = true∧f = true∧g = true∧h = false)∨(a = true∧b = true∧c = true∧d = true∧e = true∧f = true∧g = true∧h = true∧i = false)∨(a = true∧b = true∧c = true∧d = true∧e = true∧f = true∧g = true∧h = true∧i = true):=by
  cases a
  · exact .inl rfl
  · rcases ff8 b c d e f g h i with h | h | h | h | h | h | h | h | h
    · exact .inr (.inl ⟨rfl,h⟩)
    · exact .inr (.inr (.inl ⟨rfl,h⟩))
    · exact .inr (.inr (.inr (.inl ⟨rfl,h⟩)))
    · exact .inr (.inr (.inr (.inr (.inl ⟨rfl,h⟩))))
    · exact .inr (.inr (.inr (.inr (.inr (.inl ⟨rfl,h⟩)))))
    · exact .inr (.inr (.inr (.inr (.inr (.inr (.inl ⟨rfl,h⟩))))))
    · exact .inr (.inr (.inr (.inr (.inr (.inr (.inr (.inl ⟨rfl,h⟩)))))))
    · exact .inr (.inr (.inr (.inr (.inr (.inr (.inr (.inr (.inl ⟨rfl,h⟩))))))))
    · exact .inr (.inr (.inr (.inr (.inr (.inr (.inr (.inr (.inr (⟨rfl,h⟩)))))))))
theorem ff10 (a b c d e f g h i j : Bool) : (a = false)∨(a = true∧b = false)∨(a = true∧b = true∧c = false)∨(a = true∧b = true∧c = true∧d = false)∨(a = true∧b = true∧c = true∧d = true∧e = false)∨(a = true∧b = true∧c = true∧d = true∧e = true∧f = false)∨(a = true∧b = true∧c = true∧d = true∧e = true∧f = true∧g = false)∨(a = true∧b = true∧c = true∧d = true∧e = true∧f = true∧g = true∧h = false)∨(a = true∧b = true∧c = true∧d = true∧e = true∧f = true∧g = true∧h = true∧i = false)∨(a = true∧b = true∧c = true∧d = true∧e = true∧f = true∧g = true∧h = true∧i = true∧j = false)∨(a = true∧b = true∧c = true∧d = true∧e = true∧f = true∧g = true∧h = true∧i = true∧j = true):=by
  cases a
  · exact .inl rfl
  · rcases ff9 b c d e f g h i j with h | h | h | h | h | h | h | h | h | h
    · exact .inr (.inl ⟨rfl,h⟩)
    · exact .inr (.inr (.inl ⟨rfl,h⟩))
    · exact .inr (.inr (.inr (.inl ⟨rfl,h⟩)))
    · exact .inr (.inr (.inr (.inr (.inl ⟨rfl,h⟩))))
    · exact .inr (.inr (.inr (.inr (.inr (.inl ⟨rfl,h⟩)))))
    · exact .inr (.inr (.inr (.inr (.inr (.inr (.inl ⟨rfl,h⟩))))))
    · exact .inr (.inr (.inr (.inr (.inr (.inr (.inr (.inl ⟨rfl,h⟩)))))))
    · exact .inr (.inr (.inr (.inr (.inr (.inr (.inr (.inr (.inl ⟨rfl,h⟩))))))))
    · exact .inr (.inr (.inr (.inr (.inr (.inr (.inr (.inr (.inr (.inl ⟨rfl,h⟩)))))))))
    · exact .inr (.inr (.inr (.inr (.inr (.inr (.inr (.inr (.inr (.inr (⟨rfl,h⟩))))))))))
theorem ff11 (a b c d e f g h i j k : Bool) : (a = false)∨(a = true∧b = false)∨(a = true∧b = true∧c = false)∨(a = true∧b = true∧c = true∧d = false)∨(a = true∧b = true∧c = true∧d = true∧e = false)∨(a = true∧b = true∧c = true∧d = true∧e = true∧f = false)∨(a = true∧b = true∧c = true∧d = true∧e = true∧f = true∧g = false)∨(a = true∧b = true∧c = true∧d = true∧e = true∧f = true∧g = true∧h = false)∨(a = true∧b = true∧c = true∧d = true∧e = true∧f = true∧g = true∧h = true∧i = false)∨(a = true∧b = true∧c = true∧d = true∧e = true∧f = true∧g = true∧h = true∧i = true∧j = false)∨(a = true∧b = true∧c = true∧d = true∧e = true∧f = true∧g = true∧h = true∧i = true∧j = true∧k = false)∨(a = true∧b = true∧c = true∧d = true∧e = true∧f = true∧g = true∧h = true∧i = true∧j = true∧k = true):=by
  cases a
  · exact .inl rfl
  · rcases ff10 b c d e f g h i j k with h | h | h | h | h | h | h | h | h | h | h
    · exact .inr (.inl ⟨rfl,h⟩)
    · exact .inr (.inr (.inl ⟨rfl,h⟩))
    · exact .inr (.inr (.inr (.inl ⟨rfl,h⟩)))
    · exact .inr (.inr (.inr (.inr (.inl ⟨rfl,h⟩))))
    · exact .inr (.inr (.inr (.inr (.inr (.inl ⟨rfl,h⟩)))))
    · exact .inr (.inr (.inr (.inr (.inr (.inr (.inl ⟨rfl,h⟩))))))
    · exact .inr (.inr (.inr (.inr (.inr (.inr (.inr (.inl ⟨rfl,h⟩)))))))
    · exact .inr (.inr (.inr (.inr (.inr (.inr (.inr (.inr (.inl ⟨rfl,h⟩))))))))
    · exact .inr (.inr (.inr (.inr (.inr (.inr (.inr (.inr (.inr (.inl ⟨rfl,h⟩)))))))))
    · exact .inr (.inr (.inr (.inr (.inr (.inr (.inr (.inr (.inr (.inr (.inl ⟨rfl,h⟩))))))))))
    · exact .inr (.inr (.inr (.inr (.inr (.inr (.inr (.inr (.inr (.inr (.inr (⟨rfl,h⟩)))))))))))
theorem tt1 (a : Bool) : (a = true)∨(a = false):=by cases a <;> simp
theorem tt2 (a b : Bool) : (a = true)∨(a = false∧b = true)∨(a = false∧b = false):=by
  cases a
  · rcases tt1 b with h | h
    · exact .inr (.inl ⟨rfl,h⟩)
    · exact .inr (.inr (⟨rfl,h⟩))
  · exact .inl rfl
theorem tt3 (a b c : Bool) : (a = true)∨(a = false∧b = true)∨(a = false∧b = false∧c = true)∨(a = false∧b = false∧c = false):=by
  cases a
  · rcases tt2 b c with h | h | h
    · exact .inr (.inl ⟨rfl,h⟩)
    · exact .inr (.inr (.inl ⟨rfl,h⟩))
    · exact .inr (.inr (.inr (⟨rfl,h⟩)))
  · exact .inl rfl
theorem tt4 (a b c d : Bool) : (a = true)∨(a = false∧b = true)∨(a = false∧b = false∧c = true)∨(a = false∧b = false∧c = false∧d = true)∨(a = false∧b = false∧c = false∧d = false):=by
  cases a
  · rcases tt3 b c d with h | h | h | h
    · exact .inr (.inl ⟨rfl,h⟩)
    · exact .inr (.inr (.inl ⟨rfl,h⟩))
    · exact .inr (.inr (.inr (.inl ⟨rfl,h⟩)))
    · exact .inr (.inr (.inr (.inr (⟨rfl,h⟩))))
  · exact .inl rfl
theorem tt5 (a b c d e : Bool) : (a = true)∨(a = false∧b = true)∨(a = false∧b = false∧c = true)∨(a = false∧b = false∧c = false∧d = true)∨(a = false∧b = false∧c = false∧d = false∧e = true)∨(a = false∧b = false∧c = false∧d = false∧e = false):=by
  cases a
  · rcases tt4 b c d e with h | h | h | h | h
    · exact .inr (.inl ⟨rfl,h⟩)
    · exact .inr (.inr (.inl ⟨rfl,h⟩))
    · exact .inr (.inr (.inr (.inl ⟨rfl,h⟩)))
    · exact .inr (.inr (.inr (.inr (.inl ⟨rfl,h⟩))))
    · exact .inr (.inr (.inr (.inr (.inr (⟨rfl,h⟩)))))
  · exact .inl rfl
theorem tt6 (a b c d e f : Bool) : (a = true)∨(a = false∧b = true)∨(a = false∧b = false∧c = true)∨(a = false∧b = false∧c = false∧d = true)∨(a = false∧b = false∧c = false∧d = false∧e = true)∨(a = false∧b = false∧c = false∧d = false∧e = false∧f = true)∨(a = false∧b = false∧c = false∧d = false∧e = false∧f = false):=by
  cases a
  · rcases tt5 b c d e f with h | h | h | h | h | h
    · exact .inr (.inl ⟨rfl,h⟩)
    · exact .inr (.inr (.inl ⟨rfl,h⟩))
    · exact .inr (.inr (.inr (.inl ⟨rfl,h⟩)))
    · exact .inr (.inr (.inr (.inr (.inl ⟨rfl,h⟩))))
    · exact .inr (.inr (.inr (.inr (.inr (.inl ⟨rfl,h⟩)))))
    · exact .inr (.inr (.inr (.inr (.inr (.inr (⟨rfl,h⟩))))))
  · exact .inl rfl
def AVs.weak (a b : List AV) : Prop:=∀ G v,VRels G a v→VRels G b v
theorem AVs.weak.nil : AVs.weak [] []:=fun _ _ h=>h
theorem AVs.weak.refl (a : List AV) : AVs.weak a a:=fun _ _ h=>h
theorem AVs.weak.cons {x y : AV} {xs ys : List AV} (h : x.weak y) (k : AVs.weak xs ys) : AVs.weak (x :: xs) (y :: ys):=by
  intro G v hv
  simp only [VRels] at hv ⊢
  obtain ⟨u,us,rfl,h1,h2⟩:=hv
  exact ⟨u,us,rfl,h G u h1,k G us h2⟩
theorem AV.weak_agg {xs ys : List AV} (h : AVs.weak xs ys) : (AV.agg xs).weak (.agg ys):=by
  intro G v hv
  simp only [VRel] at hv ⊢
  obtain ⟨vs,rfl,h1⟩:=hv
  exact ⟨vs,rfl,h G vs h1⟩
theorem ACalls.weaks {P : Program} {Γ : Nat→List AV} {f : FuncId} {args args' : List AV} {s : AS} {Q : AV→AS→Prop} (h : AVs.weak args args') (k : ACalls P Γ f args' s Q) : ACalls P Γ f args s Q :=
  fun G w vs hs hv=>k G w vs hs (h G vs hv)
end Go.AM
namespace Go.AM
open Go Go.RowKit
variable {P : Program} {Γ : Nat→List AV}
theorem Ghost.freezeBox {N : Nat} {E : Env} {s : AS} {d o : Nat} {cs : List AV} (hE : E d = .ptr o 0) (ho : s.objs o = some cs) :
    Ghost Γ N E s (upd E d (.rop cs)) (s.drop o):=by
  intro G a w hr
  obtain ⟨b,vs,h1,h2,h3,h4,h5⟩:=hr.st.freeze ho
  refine ⟨_,h3,h5,hr.size,fun i=>?_,hr.defers.trans h3.df.symm⟩
  simp only [upd]
  split
  · rename_i e
    subst e
    have:=hr.tmps i
    rw [hE] at this
    simp only [VRel] at this
    obtain ⟨b',k1,k2⟩:=this
    rw [h1] at k1; cases k1
    rw [k2]
    simp only [VRel]
    exact ⟨b,0,vs,rfl,VRels.mono h3 _ _ h2,h4⟩
  · exact VRel.mono h3 _ _ (hr.tmps i)
theorem AS.drop_set {s : AS} {o : Nat} (ho : s.objs o = none) (cs : List AV) : (s.set o cs).drop o = s:=by
  cases s with
  | mk objs own =>
    simp only [AS.set,AS.drop,AS.mk.injEq,and_true]
    funext i
    simp only [upd]
    split
    · rename_i e; subst e; exact ho.symm
    · rfl
theorem awp_reg_frz {N : Nat} {E : Env} {s : AS} {Q : Exit→Env→AS→Prop} (d : Nat) {id : Nat} {L : List Oper} {y : Code} (hd : d ∈ dsts L)
    (h : ∀ K : Env→AS→Prop,(∀ E s o cs,E d = .ptr o 0→s.objs o = none→AWp P Γ N y Q (upd E d (.rop cs)) s→K E (s.set o cs))→AY P Γ N L.toArray L K E s) : AWp P Γ N (.seq (.region id L.toArray false) y) Q E s:=by
  refine awp_seq (awp_region_ghost ?_)
  have:=h (fun E' s'=>∃ E'' s'',Ghost Γ N E' s' E'' s''∧(∀ i,i ∉ dsts L→E'' i = E' i)∧thenQ (AWp P Γ N y Q) Q .normal E'' s'') ?_
  · rw [ay] at this
    simpa using this
  · intro E' s' o cs h1 h2 h3
    refine ⟨upd E' d (.rop cs),s',?_,?_,h3⟩
    · have:=Ghost.freezeBox (Γ:=Γ) (N:=N) (E:=E') (s:=s'.set o cs) (d:=d) h1 (AS.set_objs_same _ _ _)
      rwa [AS.drop_set h2] at this
    · intro i hi
      exact upd_ne _ _ (fun e=>hi (e ▸ hd))
end Go.AM
namespace Go.AM
open Go Go.RowKit
variable {P : Program} {Γ : Nat→List AV}
abbrev eyeC (st : EyeSt) : List AV:=[bytesV st.1 .any,.v (.int .i64 st.2)]
abbrev reyeC (st : EyeSt) : List AV:=[.v (.string ⟨st.1.toArray⟩),.v (.int .i64 st.2)]
theorem AS.drop_le (s : AS) (p : Nat) : (s.drop p).le s:=by
  refine ⟨fun o cs hc=>?_,fun t e he=>?_,fun _ _ h=>h⟩
  · simp only [AS.drop,upd] at hc
    split at hc
    · cases hc
    · exact hc
  · simpa [AS.drop] using he
theorem EyeS.at {s : AS} {p : Nat} {st : EyeSt} (h : s.objs p = some (eyeC st)) : EyeS (s.drop p) s p st:=⟨AS.drop_le s p,by simp [AS.drop],h⟩
theorem REyeS.at {s : AS} {p : Nat} {st : EyeSt} (h : s.objs p = some (reyeC st)) : REyeS (s.drop p) s p st:=⟨AS.drop_le s p,by simp [AS.drop],h⟩
theorem AS.set_le_of {s s' : AS} {p : Nat} {cs : List AV} (h : (s.drop p).le s') (ho : s'.objs p = some cs) : (s.set p cs).le s':=by
  refine ⟨fun o c hc=>?_,fun t e he=>?_,fun b l hb=>h.maps b l hb⟩
  · by_cases e : o = p
    · subst e
      simp [AS.set] at hc
      rw [ho,hc]
    · simp only [AS.set,upd,if_neg e] at hc
      exact h.objs o c (by simpa only [AS.drop,upd,if_neg e] using hc)
  · exact h.own t e (by simpa [AS.drop,AS.set] using he)
theorem ACalls.forget {f : FuncId} {args : List AV} {s : AS} {Q R : AV→AS→Prop} (h : ACalls P Γ f args s Q) (k : ∀ r s',Q r s'→∃ s'',s''.le s'∧R r s'') : ACalls P Γ f args s R:=by
  intro G w vs hs hv
  refine (h G w vs hs hv).mono ?_
  rintro e w' ⟨G',r,v,s',h1,h2,h3,h4,h5⟩
  obtain ⟨s'',k1,k2⟩:=k r s' h5
  exact ⟨G',r,v,s'',h1,h2,h3.mono k1,h4,k2⟩
theorem EyeS.call {f : FuncId} {args : List AV} {s : AS} {p : Nat} {st : EyeSt} {A : AV→Prop} (h : ACalls P Γ f args s (fun r s'=>A r∧EyeS (s.drop p) s' p st)) : ACalls P Γ f args s (fun r s'=>A r∧s' = s.set p (eyeC st)) :=
  h.forget fun r s' ⟨h1,h2⟩=>⟨s.set p (eyeC st),AS.set_le_of h2.le h2.obj,h1,rfl⟩
theorem REyeS.call {f : FuncId} {args : List AV} {s : AS} {p : Nat} {st : EyeSt} {A : AV→Prop} (h : ACalls P Γ f args s (fun r s'=>A r∧REyeS (s.drop p) s' p st)) : ACalls P Γ f args s (fun r s'=>A r∧s' = s.set p (reyeC st)) :=
  h.forget fun r s' ⟨h1,h2⟩=>⟨s.set p (reyeC st),AS.set_le_of h2.le h2.obj,h1,rfl⟩
theorem AS.drop_none {s : AS} {p : Nat} (h : s.objs p = none) : s.drop p = s:=by
  cases s with
  | mk objs own =>
    simp only [AS.drop,AS.mk.injEq,and_true]
    funext i
    simp only [upd]
    split
    · rename_i e; subst e; exact h.symm
    · rfl
theorem EyeS.open {f : FuncId} {args : List AV} {s : AS} {st : EyeSt} (h : ACalls P Γ f args s (fun r s'=>∃ p,r = .ptr p 0∧EyeS s s' p st)) : ACalls P Γ f args s (fun r s'=>∃ p,s.objs p = none∧r = .ptr p 0∧s' = s.set p (eyeC st)) :=
  h.forget fun r s' ⟨p,h1,h2⟩=>⟨s.set p (eyeC st),AS.set_le_of (by rw [AS.drop_none h2.new]; exact h2.le) h2.obj,p,h2.new,h1,rfl⟩
theorem AS.set_objs_ne (s : AS) {o p : Nat} (h : p≠o) (cs : List AV) : (s.set o cs).objs p = s.objs p:=by simp [AS.set,upd,h]
theorem AS.fresh_set {s : AS} {o p : Nat} {cs : List AV} (h : (s.set o cs).objs p = none) : p≠o∧s.objs p = none:=by
  by_cases e : p = o
  · subst e; simp [AS.set] at h
  · exact ⟨e,by simpa [AS.set,upd,e] using h⟩
theorem aends_cell_tmp {E : Env} {s : AS} {Post : AV→AS→Prop} {a T t o off : Nat} {cs : List AV} {v : AV} (h1 : E a = .ptr o off) (h2 : s.objs o = some cs) (h3 : P.cellsOf T≠0) (h4 : aload P T (cs.drop off) = some v)
    (h : ∃ r s',(AV.tup [v,E t]).weak r∧s'.le s∧Post r s') : retQ P [.cell a T,.tmp t] Post .ret E s:=by
  simp only [retQ,AEnds,aresL,ares,h1,h2,if_neg h3,h4]
  exact h
theorem AS.set_mid (s : AS) {p o : Nat} (h : p≠o) (a b c : List AV) : ((s.set p a).set o b).set p c = (s.set p c).set o b:=by
  simp only [AS.set,AS.mk.injEq,and_true]
  funext i
  simp only [upd]
  by_cases h1 : i = p
  · subst h1; simp [h]
  · simp [h1]
end Go.AM
namespace Go.AM
open Go Go.RowKit
theorem isF_cons {a b : Ty} {avs : List AV} (h : IsF (.cons a b) avs) : ∃ x y,avs = x ++ y∧IsTy a x∧IsF b y:=by simpa only [IsF] using h
theorem isF_nil {avs : List AV} (h : IsF .nil avs) : avs = []:=by simpa only [IsF] using h
theorem isTy_struct {b : Ty} {avs : List AV} (h : IsTy (.struct b) avs) : IsF b avs:=by simpa only [IsTy] using h
theorem isTy_int {k : IntKind} {avs : List AV} (h : IsTy (.int k) avs) : ∃ n,avs = [.v (.int k n)]∧(Lit.int k n).wf = true:=by simpa only [IsTy] using h
abbrev tyB : Ty:=.slice 1 (.int .u8)
abbrev tyI : Ty:=.int .i64
end Go.AM
namespace Go.AM
open Go Go.RowKit
variable {rd : Option Nat} {P : Program} {Γ : Nat→List AV} {G : Gh} {s : AS} {w : World}
abbrev Fz:=List (Nat × List AV)
def Pres (F : Fz) (s : AS) : Prop:=∀ x ∈ F,s.objs x.1 = some x.2
def fzGet (F : Fz) (o : Nat) : Option (List AV):=(F.find? (fun x=>x.1 == o)).map (·.2)
theorem fzGet_pres {F : Fz} {s : AS} (h : Pres F s) {o : Nat} {cs : List AV} (hg : fzGet F o = some cs) : s.objs o = some cs:=by
  unfold fzGet at hg
  rw [Option.map_eq_some_iff] at hg
  obtain ⟨x,h1,rfl⟩:=hg
  have h2:=List.mem_of_find?_eq_some h1
  have h3:=List.find?_some h1
  simp only [beq_iff_eq] at h3
  rw [← h3]
  exact h x h2
def lval (P : Program) (F : Fz) (ρ : Operand→AV) (op : Op) : Option AV :=
  match op with
  | .load T x=>match ρ x with
    | .ptr o off=>match fzGet F o with
      | some cs=>if P.cellsOf T = 0 then none else aload P T (cs.drop off)
      | none=>none
    | _=>none
  | _=>none
theorem lval_congr {F : Fz} {ρ ρ' : Operand→AV} {op : Op} (h : ∀ x ∈ op.operands,ρ x = ρ' x) : lval P F ρ op = lval P F ρ' op:=by
  cases op <;> simp only [lval]
  case load T x=>rw [h x (by simp [Op.operands])]
section
variable {N : Nat} {ops : Array Oper}
def gval (ops : Array Oper) (o : Oper) (E : Env) (v : Option AV) : Option AV :=
  match o.guard with
  | none=>v
  | some (j,want) =>
    match gdst ops j with
    | none=>none
    | some d =>
      match E d with
      | .v (.bool t)=>if t = want then v else some (.v undef)
      | .v (.tuple _)=>some (.v undef)
      | _=>none
def pvalM (P : Program) (Γ : Nat→List AV) (ops : Array Oper) (F : Fz) (m : Nat) (o : Oper) (E : Env) : Option AV :=
  gval ops o E (if m = 1 then lval P F (aeval Γ E) o.op else aval P (aeval Γ E) o.op)
theorem pvalM_congr {F : Fz} {m : Nat} {o : Oper} {E E' : Env} (h : ∀ d,d ∈ o.looksAt ops→E' d = E d) : pvalM P Γ ops F m o E' = pvalM P Γ ops F m o E:=by
  have hop : ∀ x ∈ o.op.operands,aeval Γ E' x = aeval Γ E x:=fun x hx=>by
    cases x with
    | tmp t=>exact h t (List.mem_append_left _ (List.mem_filterMap.2 ⟨.tmp t,by simpa using hx,rfl⟩))
    | const v=>rfl
    | global g=>rfl
    | func f=>rfl
  unfold pvalM
  rw [lval_congr hop,aval_congr hop]
  unfold gval
  split
  · rfl
  · rename_i j want hg
    split
    · rfl
    · rename_i d hj
      have : E' d = E d:=h d (by
        by_cases hd : d ∈ o.looksAt ops
        · exact hd
        · exact absurd hj (looks_guard hd hg))
      rw [this]
def needs (L : List (Oper × Nat)) : Bool:=L.any fun x=>x.2 == 1
def AXm (P : Program) (Γ : Nat→List AV) (N : Nat) (ops : Array Oper) (F : Fz) : List (Oper × Nat)→(Env→AS→Prop)→Env→AS→Prop
  | [],K,E,s=>K E s
  | (o,m) :: rest,K,E,s =>
    if m≤1 then (∀ d,o.dst = some d→d < N)∧match pvalM P Γ ops F m o E with | some v=>AXm P Γ N ops F rest K (updO E o.dst v) s | none=>False
    else AX P Γ N ops [o] (fun E' s'=>((m = 2∨needs rest = true)→Pres F s')∧AXm P Γ N ops F rest K E' s') E s
theorem AXm_mono {F : Fz} : ∀ (L : List (Oper × Nat)) {K K' : Env→AS→Prop} {E : Env} {s : AS},(∀ E s,K E s→K' E s)→AXm P Γ N ops F L K E s→AXm P Γ N ops F L K' E s
  | [],K,K',E,s,hk,h=>hk _ _ h
  | (o,m) :: L,K,K',E,s,hk,h=>by
    simp only [AXm] at h ⊢
    split at h
    · rename_i he
      rw [if_pos he]
      refine ⟨h.1,?_⟩
      have h:=h.2
      split at h
      · exact AXm_mono L hk h
      · exact h
    · rename_i he; rw [if_neg he]; exact AX_mono _ (fun E s h=>⟨h.1,AXm_mono L hk h.2⟩) h
theorem needs_cons {x : Oper × Nat} {L : List (Oper × Nat)} : needs (x :: L) = ((x.2 == 1) || needs L):=rfl
theorem needs_append {L M : List (Oper × Nat)} : needs (L ++ M) = (needs L || needs M):=by simp [needs]
theorem AXm_AX {F : Fz} {o : Oper} {m : Nat} {L : List (Oper × Nat)} {E : Env} {K : Env→AS→Prop} (hp : needs ((o,m) :: L) = true→Pres F s) (h : AXm P Γ N ops F ((o,m) :: L) K E s) :
    AX P Γ N ops [o] (fun E' s'=>(needs L = true→Pres F s')∧AXm P Γ N ops F L K E' s') E s:=by
  have hp' : needs L = true→Pres F s:=fun h=>hp (by rw [needs_cons,h,Bool.or_true])
  simp only [AXm] at h
  split at h
  · rename_i hm
    have core : ∀ v,(if m = 1 then lval P F (aeval Γ E) o.op else aval P (aeval Γ E) o.op) = some v→AXm P Γ N ops F L K (updO E o.dst v) s →
        astep P Γ (aeval Γ E) s (fun r s'=>(needs L = true→Pres F s')∧AXm P Γ N ops F L K (updO E o.dst r) s') o.op:=by
      intro v hv hK
      by_cases h1 : m = 1
      · rw [if_pos h1] at hv
        have hP : Pres F s:=hp (by rw [needs_cons]; simp [h1])
        cases hop : o.op <;> rw [hop] at hv <;> simp only [lval] at hv <;> try (cases hv; done)
        rename_i T x
        cases hx : aeval Γ E x <;> rw [hx] at hv <;> simp only at hv <;> try (cases hv; done)
        rename_i ob off
        cases hg : fzGet F ob with
        | none=>rw [hg] at hv; cases hv
        | some cs =>
          rw [hg] at hv
          simp only at hv
          split at hv
          · cases hv
          · rename_i hc
            have ha : aval P (aeval Γ E) (.load T x) = none:=by simp only [aval,hx]
            simp only [astep,ha,aeff_load_eq,hx,fzGet_pres hP hg,hv]
            exact ⟨hc,hp',hK⟩
      · rw [if_neg h1] at hv
        simp only [astep,hv]
        exact ⟨hp',hK⟩
    simp only [AX]
    refine ⟨h.1,?_⟩
    have h:=h.2
    unfold pvalM gval at h
    cases hg : o.guard with
    | none =>
      simp only [hg] at h
      split at h
      · rename_i v hv; exact core v hv h
      · exact h.elim
    | some p =>
      obtain ⟨j,want⟩:=p
      simp only [hg] at h
      cases hj : gdst ops j with
      | none=>simp [hj] at h
      | some d =>
        simp only [hj] at h ⊢
        split
        · rename_i t hE
          simp only [hE] at h
          split
          · rename_i ht
            simp only [if_pos ht] at h
            split at h
            · rename_i v hv; exact core v hv h
            · exact h.elim
          · rename_i ht
            simp only [if_neg ht] at h
            exact ⟨hp',h⟩
        · rename_i c hE
          simp only [hE] at h
          exact ⟨hp',h⟩
        · rename_i hne hne2
          split at h
          · rename_i v hv
            split at hv
            · rename_i t hE
              exact absurd hE (hne t)
            · rename_i c hE
              exact absurd hE (hne2 c)
            · cases hv
          · exact h
  · exact AX_mono _ (fun E' s' hE=>⟨fun hn=>hE.1 (.inr hn),hE.2⟩) h
theorem mval_later {F : Fz} {y : Oper} {m : Nat} (hm : m≤1) {L2 : List (Oper × Nat)} {K : Env→AS→Prop} : ∀ (L1 : List (Oper × Nat)) {G : Gh} {E : Env} {s : AS} {a : Act} {w : World},(∀ x ∈ L1,Apart ops x.1 y)→(needs (L1 ++ (y,m) :: L2) = true→Pres F s)→AXm P Γ N ops F (L1 ++ (y,m) :: L2) K E s→Rel Γ N G E s a w →
    (∀ d,y.dst = some d→d < N)∧∃ v,pvalM P Γ ops F m y E = some v
  | [],G,E,s,a,w,_,hp,h,hr=>by
    simp only [List.nil_append,AXm,if_pos hm] at h
    refine ⟨h.1,?_⟩
    have h:=h.2
    split at h
    · rename_i v hv; exact ⟨v,hv⟩
    · exact h.elim
  | (x,ex) :: L1,G,E,s,a,w,hap,hp,h,hr=>by
    obtain ⟨G',E',s',a',w',hr',hK,hf⟩:=AX_one_some (AXm_AX hp h) hr
    obtain ⟨h1,v,h2⟩:=mval_later hm L1 (fun x hx=>hap x (List.mem_cons_of_mem _ hx)) hK.1 hK.2 hr'
    refine ⟨h1,v,?_⟩
    rw [← h2]
    refine (pvalM_congr fun d hd=>hf d fun e=>?_).symm
    exact (Oper.apart_spec (hap (x,ex) (by simp))).1 d e hd
theorem AXm_first_pure {F : Fz} {y : Oper} {m : Nat} (hm : m≤1) {L2 : List (Oper × Nat)} {K : Env→AS→Prop} {v : AV} : ∀ (L1 : List (Oper × Nat)) {E : Env} {s : AS},(∀ x ∈ L1,Apart ops x.1 y)→pvalM P Γ ops F m y E = some v→AXm P Γ N ops F (L1 ++ (y,m) :: L2) K E s →
    AXm P Γ N ops F (L1 ++ L2) K (updO E y.dst v) s
  | [],E,s,_,hv,h=>by
    simp only [List.nil_append,AXm,if_pos hm,hv] at h
    exact h.2
  | (x,ex) :: L1,E,s,hap,hv,h=>by
    obtain ⟨a1,a2,a3⟩:=Oper.apart_spec (hap (x,ex) (by simp))
    have hap' : ∀ x ∈ L1,Apart ops x.1 y:=fun x hx=>hap x (List.mem_cons_of_mem _ hx)
    have hv' : ∀ E' : Env,(∀ i,x.dst≠some i→E' i = E i)→pvalM P Γ ops F m y E' = some v:=fun E' hE=>by
      rw [pvalM_congr (E:=E) fun d hd=>hE d fun e=>a1 d e hd,hv]
    simp only [List.cons_append,AXm] at h ⊢
    split at h
    · rename_i he
      rw [if_pos he]
      refine ⟨h.1,?_⟩
      have h:=h.2
      rw [pvalM_congr (E:=E) fun d hd=>updO_other fun e=>a3 d e hd]
      split at h
      · rename_i u hu
        simp only [hu]
        rw [updO_comm (fun d h1 h2=>a2 d h2 h1)]
        exact AXm_first_pure hm L1 hap' (hv' _ fun i hi=>updO_other hi) h
      · exact h.elim
    · rename_i he
      rw [if_neg he]
      refine (AX_put (fun d hd=>a3 d hd) (fun d hd e=>a2 d e hd)).2 ?_
      refine AX_mono _ (fun E' s' hE=>?_) (AX_one_frame h)
      refine ⟨fun hn=>hE.1.1 (hn.imp id fun hn=>?_),AXm_first_pure hm L1 hap' (hv' E' hE.2) hE.1.2⟩
      rw [needs_append] at hn ⊢
      rw [needs_cons]
      simp only [Bool.or_eq_true] at hn ⊢
      rcases hn with hn | hn
      · exact .inl hn
      · exact .inr (.inr hn)
theorem AXm_first_eff {F : Fz} {y : Oper} {m : Nat} (hm : ¬ m≤1) {L2 : List (Oper × Nat)} {K : Env→AS→Prop} : ∀ (L1 : List (Oper × Nat)) {E : Env} {s : AS},(∀ x ∈ L1,Apart ops x.1 y∧x.2≤1∧(m≠2→x.2≠1))→AXm P Γ N ops F (L1 ++ (y,m) :: L2) K E s →
    AX P Γ N ops [y] (fun E' s'=>((m = 2∨needs (L1 ++ L2) = true)→Pres F s')∧AXm P Γ N ops F (L1 ++ L2) K E' s') E s
  | [],E,s,_,h=>by simpa only [List.nil_append,AXm,if_neg hm] using h
  | (x,ex) :: L1,E,s,hap,h=>by
    obtain ⟨hap0,hex,hl⟩:=hap (x,ex) (by simp)
    simp only at hex hl
    obtain ⟨a1,a2,a3⟩:=Oper.apart_spec hap0
    have hap' : ∀ x ∈ L1,Apart ops x.1 y∧x.2≤1∧(m≠2→x.2≠1):=fun x hx=>hap x (List.mem_cons_of_mem _ hx)
    simp only [List.cons_append,AXm,if_pos hex] at h
    obtain ⟨h0,h⟩:=h
    split at h
    · rename_i v hv
      have h1:=AXm_first_eff hm L1 hap' h
      have h2:=(AX_put (fun d hd=>a1 d hd) (fun d hd=>a2 d hd)).1 h1
      refine AX_mono _ (fun E' s' hE=>⟨?_,?_⟩) (AX_one_frame h2)
      · intro hn
        refine hE.1.1 ?_
        by_cases h2 : m = 2
        · exact .inl h2
        · refine .inr ?_
          rcases hn with hn | hn
          · exact absurd hn h2
          · rw [List.cons_append,needs_cons] at hn
            simpa [hl h2] using hn
      · simp only [List.cons_append,AXm,if_pos hex]
        refine ⟨h0,?_⟩
        rw [pvalM_congr (E:=E) fun d hd=>hE.2 d fun e=>a3 d e hd,hv]
        exact hE.1.2
    · exact h.elim
def markOf (fl ld lx : List Nat) (i : Nat) : Nat:=if ld.contains i then 1 else if fl.contains i then 2 else if lx.contains i then 3 else 0
def pairsOkM (ops : Array Oper) (D : List Nat) (mk : Nat→Nat) : Bool :=
  (List.range ops.size).all fun j=>(List.range j).all fun i =>
    match ops[i]?,ops[j]? with
    | some x,some y=>(D.getD j 0).testBit i || (x.apart ops y && !(decide (2≤mk i) && decide (2≤mk j)) && !(mk i == 1 && mk j == 3))
    | _,_=>true
def drawOkM (ops : Array Oper) (mk : Nat→Nat) : Bool:=depEq ops (Region.before ops).toList && pairsOkM ops (Region.before ops).toList mk
def opAtM (ops : Array Oper) (mk : Nat→Nat) (i : Nat) : Oper × Nat:=((ops[i]?).getD default,mk i)
theorem wpAny_of_AXm {F : Fz} {mk : Nat→Nat} (hmk : ∀ i,mk i≤3) {Q : Exit→Act→World→Prop} {K : Env→AS→Prop} (hok : drawOkM ops mk = true) :
    ∀ (fuel : Nat) (listed : Array Bool) {G : Gh} {E : Env} {s : AS} {a : Act} {w : World},listed.size = ops.size→(left ops listed).length≤fuel →
      (∀ (i : Nat) (o : Oper),ops[i]? = some o→listed.getD i true = true→∀ e ∈ o.after.toList,Region.binds .any e = true→listed.getD e.on false = true) →
      (needs ((left ops listed).map (opAtM ops mk)) = true→Pres F s)→AXm P Γ N ops F ((left ops listed).map (opAtM ops mk)) K E s→Rel Γ N G E s a w →
      (∀ G' E' s' a' w',G.le G'→Rel Γ N G' E' s' a' w'→K E' s'→Q .normal a' w')→wpAnyIn (fen rd) 0 P .any ops Q fuel listed a w:=by
  simp only [drawOkM,Bool.and_eq_true] at hok
  obtain ⟨hdep,hpairs⟩:=hok
  intro fuel
  have hnil : ∀ (listed : Array Bool),Region.ready .any ops listed = []→left ops listed = []:=by
    intro listed h
    -- the first that is left could go
    cases hl : left ops listed with
    | nil=>rfl
    | cons i L =>
      exfalso
      have hi : i ∈ left ops listed:=by rw [hl]; simp
      obtain ⟨h1,h2⟩:=mem_left.1 hi
      have hmin : ∀ j,j < i→listed.getD j true = true:=by
        intro j hj
        cases hjl : listed.getD j true with
        | true=>rfl
        | false =>
          exfalso
          have hjm : j ∈ left ops listed:=mem_left.2 ⟨by omega,hjl⟩
          have hs : (left ops listed).Pairwise (· < ·):=by
            unfold left
            exact List.Pairwise.filter _ List.pairwise_lt_range
          rw [hl] at hs hjm
          rcases List.mem_cons.1 hjm with rfl | hjm
          · omega
          · have:=(List.pairwise_cons.1 hs).1 j hjm
            omega
      have ho : ops[i]? = some ops[i]:=by simp [h1]
      have hr : i ∈ Region.ready .any ops listed:=by
        rw [mem_ready]
        refine ⟨h2,_,ho,fun e he hb=>?_⟩
        have hlt:=(depEq_spec hdep ho).2 e (by simpa using he) hb
        have:=hmin _ hlt
        -- both defaults agree where the place is there
        have hsz : e.on < listed.size:=by
          rcases Nat.lt_or_ge e.on listed.size with h' | h'
          · exact h'
          · exfalso
            have : listed.getD i true = true:=by
              simp [Array.getElem?_eq_none (show listed.size≤i by omega)]
            rw [h2] at this; cases this
        simpa [hsz] using this
      rw [h] at hr
      cases hr
  induction fuel with
  | zero =>
    intro listed G E s a w hsz hlen hcl hP h hr hq
    have hl : left ops listed = []:=List.eq_nil_of_length_eq_zero (by omega)
    have hready : Region.ready .any ops listed = []:=by
      cases hrd : Region.ready .any ops listed with
      | nil=>rfl
      | cons i L =>
        exfalso
        have : i ∈ Region.ready .any ops listed:=by rw [hrd]; simp
        rw [mem_ready] at this
        obtain ⟨h0,o,ho,_⟩:=this
        have : i ∈ left ops listed:=mem_left.2 ⟨(Array.getElem?_eq_some_iff.1 ho).1,h0⟩
        rw [hl] at this
        cases this
    rw [hl] at h
    exact ⟨hready,hq G E s a w (.refl G) hr h⟩
  | succ fuel ih =>
    intro listed G E s a w hsz hlen hcl hP h hr hq
    refine ⟨fun hready=>?_,fun i hi=>?_⟩
    · rw [hnil listed hready] at h
      exact hq G E s a w (.refl G) hr h
    · obtain ⟨h0,o,ho,hall⟩:=mem_ready.1 hi
      have hilt : i < ops.size:=(Array.getElem?_eq_some_iff.1 ho).1
      obtain ⟨L1,L2,q1,q2,q3⟩:=left_set hsz hilt h0
      -- what comes before i is done
      have hbefore : ∀ (j : Nat) (oj : Oper),ops[j]? = some oj→(∀ e ∈ oj.after.toList,Region.binds .any e = true→listed.getD e.on false = true)→∀ l,((Region.before ops).toList.getD j 0).testBit l = true→listed.getD l false = true:=by
        intro j
        induction j using Nat.strongRecOn with
        | _ j ihj =>
          intro oj hoj hj l hl
          obtain ⟨d1,d2⟩:=depEq_spec hdep hoj
          obtain ⟨e,he,hb,h1⟩:=d1 l hl
          have hel:=hj e he hb
          rcases h1 with rfl | h1
          · exact hel
          · have hlt:=d2 e he hb
            have hon : e.on < ops.size:=by
              have:=(Array.getElem?_eq_some_iff.1 hoj).1
              omega
            have heon : ops[e.on]? = some ops[e.on]:=by simp [hon]
            refine ihj e.on hlt _ heon (hcl e.on _ heon ?_) l h1
            have : e.on < listed.size:=by omega
            simpa [this] using hel
      have hpair : ∀ x ∈ L1,Apart ops ((ops[x]?).getD default) o∧¬ (2≤mk x∧2≤mk i)∧¬ (mk x = 1∧mk i = 3):=by
        intro x hx
        obtain ⟨hxi,hxl⟩:=q3 x hx
        unfold pairsOkM at hpairs
        rw [List.all_eq_true] at hpairs
        have h1:=hpairs i (by simpa using hilt)
        rw [List.all_eq_true] at h1
        have h2:=h1 x (by simpa using hxi)
        have hox : ops[x]? = some (ops[x]'(by omega)):=by simp
        rw [hox,ho] at h2
        simp only [Bool.or_eq_true,Bool.and_eq_true,Bool.not_eq_true'] at h2
        rcases h2 with h2 | ⟨⟨h2,h3⟩,h4⟩
        · exfalso
          have:=hbefore i o ho (fun e he hb=>hall e (by simpa using he) hb) x h2
          have hxs : x < listed.size:=by omega
          simp [hxs] at this hxl
          rw [hxl] at this; cases this
        · refine ⟨by rw [hox]; exact h2,fun hc=>?_,fun hc=>?_⟩
          · simp [hc.1,hc.2] at h3
          · simp [hc.1,hc.2] at h4
      have hset : ∀ {G' : Gh} {E' : Env} {s' : AS} {a' : Act} {w' : World},G.le G'→(needs ((L1 ++ L2).map (opAtM ops mk)) = true→Pres F s')→AXm P Γ N ops F ((L1 ++ L2).map (opAtM ops mk)) K E' s'→Rel Γ N G' E' s' a' w'→wpAnyIn (fen rd) 0 P .any ops Q fuel (listed.setIfInBounds i true) a' w':=by
        intro G' E' s' a' w' hle hP' hA hr'
        refine ih (listed.setIfInBounds i true) (by simpa using hsz) ?_ ?_ (by rw [q2]; exact hP') ?_ hr' (fun G'' E'' s'' a'' w'' k1 k2 k3=>hq G'' E'' s'' a'' w'' (hle.trans k1) k2 k3)
        · rw [q2]
          rw [q1] at hlen
          simp at hlen ⊢
          omega
        · intro j oj hoj hj e he hb
          by_cases hji : j = i
          · subst hji
            rw [ho] at hoj; cases hoj
            exact getD_set_true (hall e (by simpa using he) hb)
          · rw [getD_set_ne true (Ne.symm hji)] at hj
            exact getD_set_true (hcl j oj hoj hj e he hb)
        · rw [q2]; exact hA
      rw [q1] at h hP
      simp only [List.map_append,List.map_cons] at h hset hP
      have hop : opAtM ops mk i = (o,mk i):=by simp [opAtM,ho]
      rw [hop] at h hP
      by_cases hf : mk i≤1
      · have hap : ∀ x ∈ L1.map (opAtM ops mk),Apart ops x.1 o:=by
          intro x hx
          obtain ⟨j,hj,rfl⟩:=List.mem_map.1 hx
          exact (hpair j hj).1
        obtain ⟨hd,v,hv⟩:=mval_later hf _ hap hP h hr
        have h1:=AXm_first_pure hf _ hap hv h
        have hX : AXm P Γ N ops F ((o,mk i) :: (L1.map (opAtM ops mk) ++ L2.map (opAtM ops mk))) K E s:=by
          simp only [AXm,if_pos hf,hv]
          exact ⟨hd,h1⟩
        have h2:=AXm_AX (fun hn=>hP (by
          rw [needs_cons,needs_append] at hn
          rw [needs_append,needs_cons]
          simp only [Bool.or_eq_true] at hn ⊢
          rcases hn with hn | hn | hn
          · exact .inr (.inl hn)
          · exact .inl hn
          · exact .inr (.inr hn))) hX
        exact AX_step (L:=[]) (K:=fun E s=>(needs (L1.map (opAtM ops mk) ++ L2.map (opAtM ops mk)) = true→Pres F s)∧AXm P Γ N ops F (L1.map (opAtM ops mk) ++ L2.map (opAtM ops mk)) K E s) ho h2 hr (fun G' E' s' a' w' k1 k2 k3=>hset k1 k3.1 k3.2 k2)
      · have hap : ∀ x ∈ L1.map (opAtM ops mk),Apart ops x.1 o∧x.2≤1∧(mk i≠2→x.2≠1):=by
          intro x hx
          obtain ⟨j,hj,rfl⟩:=List.mem_map.1 hx
          obtain ⟨p1,p2,p3⟩:=hpair j hj
          have hi3:=hmk i
          refine ⟨p1,?_,fun h2 h3=>?_⟩
          · show mk j≤1
            omega
          · have h3 : mk j = 1:=h3
            omega
        have h2:=AXm_first_eff hf _ hap h
        exact AX_step (L:=[]) (K:=fun E s=>((mk i = 2∨needs (L1.map (opAtM ops mk) ++ L2.map (opAtM ops mk)) = true)→Pres F s)∧AXm P Γ N ops F (L1.map (opAtM ops mk) ++ L2.map (opAtM ops mk)) K E s) ho h2 hr (fun G' E' s' a' w' k1 k2 k3=>hset k1 (fun hn=>k3.1 (.inr hn)) k3.2 k2)
theorem AXm_frame {F : Fz} : ∀ (L : List (Oper × Nat)) {K : Env→AS→Prop} {E : Env} {s : AS},AXm P Γ N ops F L K E s→AXm P Γ N ops F L (fun E' s'=>K E' s'∧∀ i,i ∉ dsts (L.map (·.1))→E' i = E i) E s
  | [],K,E,s,h=>⟨h,fun _ _=>rfl⟩
  | (o,m) :: L,K,E,s,h=>by
    have hmem : ∀ i,i ∉ dsts (((o,m) :: L).map (·.1))→i ∉ dsts (L.map (·.1))∧o.dst≠some i:=by
      intro i hi
      simp only [dsts,List.map_cons,List.filterMap_cons] at hi
      refine ⟨fun hm=>hi ?_,fun e=>hi (by simp [e])⟩
      simp only [dsts] at hm
      split
      · exact hm
      · exact List.mem_cons_of_mem _ hm
    simp only [AXm] at h ⊢
    split at h
    · rename_i he
      rw [if_pos he]
      refine ⟨h.1,?_⟩
      have h:=h.2
      split at h
      · refine AXm_mono L (fun E'' s'' hE'=>⟨hE'.1,fun i hi=>?_⟩) (AXm_frame L h)
        obtain ⟨m1,m2⟩:=hmem i hi
        rw [hE'.2 i m1,updO_other m2]
      · exact h
    · rename_i he
      rw [if_neg he]
      refine AX_mono _ (fun E' s' hE=>⟨hE.1.1,?_⟩) (AX_one_frame h)
      refine AXm_mono L (fun E'' s'' hE'=>⟨hE'.1,fun i hi=>?_⟩) (AXm_frame L hE.1.2)
      obtain ⟨m1,m2⟩:=hmem i hi
      rw [hE'.2 i m1,hE.2 i m2]
theorem awp_region_mark {E : Env} {Q : Exit→Env→AS→Prop} (hm : P.follows .mixedOrders = true) (F : Fz) (mk : Nat→Nat) (hmk : ∀ i,mk i≤3) {id : Nat} (hok : drawOkM ops mk = true) (hP : Pres F s)
    (h : AXm P Γ N ops F ((List.range ops.size).map (opAtM ops mk)) (fun E' s'=>Q .normal E' s') E s) : AWp P Γ N (.region id ops true) Q E s:=by
  intro G a w hr
  refine wpIn_region_any hm ?_
  have hleft : left ops (Array.replicate ops.size false) = List.range ops.size:=by
    unfold left
    rw [List.filter_eq_self]
    intro i hi
    have : i < ops.size:=by simpa using hi
    simp [this]
  have hr' : Rel Γ N G E s a w.drew:=⟨hr.st.drew,hr.size,hr.tmps,hr.defers⟩
  refine wpAny_of_AXm hmk hok ops.size (Array.replicate ops.size false) (by simp) (by rw [hleft]; simp) ?_ (fun _=>hP) (by rw [hleft]; exact AXm_frame _ h) hr' ?_
  · intro i o ho hl
    have : i < ops.size:=(Array.getElem?_eq_some_iff.1 ho).1
    simp [this] at hl
  · intro G' E' s' a' w' h1 h2 h3
    refine ⟨G',E',s',h1,h2,h3.1,fun i hi=>h3.2 i fun hm=>hi ?_⟩
    have : ((List.range ops.size).map (opAtM ops mk)).map (·.1) = ops.toList:=by
      apply List.ext_getElem?
      intro j
      simp only [List.getElem?_map]
      by_cases hj : j < ops.size
      · simp [hj,opAtM]
      · simp [hj]
    have hm' : i ∈ dsts (((List.range ops.size).map (opAtM ops mk)).map (·.1)):=hm
    rw [this] at hm'
    exact hm'
end
end Go.AM
namespace Go.AM
open Go Go.RowKit
variable {P : Program} {Γ : Nat→List AV} {s : AS}
section
variable {N : Nat} {ops : Array Oper}
theorem markOf_le (fl ld lx : List Nat) (i : Nat) : markOf fl ld lx i≤3:=by
  unfold markOf; split
  · omega
  · split
    · omega
    · split <;> omega
def AXr0 (P : Program) (Γ : Nat→List AV) (N : Nat) (ops : Array Oper) (F : Fz) (fl ld lx : List Nat) : Nat→List Oper→(Env→AS→Prop)→Env→AS→Prop
  | _,[],K,E,s=>K E s
  | k,o :: rest,K,E,s =>
    if ld.contains k = true then (∀ d,o.dst = some d→d < N)∧match gval ops o E (lval P F (aeval Γ E) o.op) with | some v=>AXr0 P Γ N ops F fl ld lx (k + 1) rest K (updO E o.dst v) s | none=>False
    else if fl.contains k = true then AY P Γ N ops [o] (fun E' s'=>Pres F s'∧AXr0 P Γ N ops F fl ld lx (k + 1) rest K E' s') E s
    else if lx.contains k = true then AY P Γ N ops [o] (fun E' s'=>((ld.any fun i=>decide (k < i)) = true→Pres F s')∧AXr0 P Γ N ops F fl ld lx (k + 1) rest K E' s') E s
    else (∀ d,o.dst = some d→d < N)∧match gval ops o E (aval P (aeval Γ E) o.op) with | some v=>AXr0 P Γ N ops F fl ld lx (k + 1) rest K (updO E o.dst v) s | none=>False
theorem AXr0_AXm {F : Fz} {fl ld lx : List Nat} : ∀ (L : List Oper) (k : Nat) {K : Env→AS→Prop} {E : Env} {s : AS},(∀ j o,L[j]? = some o→ops[k + j]? = some o)→AXr0 P Γ N ops F fl ld lx k L K E s →
    AXm P Γ N ops F ((List.range' k L.length).map (opAtM ops (markOf fl ld lx))) K E s
  | [],k,K,E,s,_,h=>h
  | o :: L,k,K,E,s,hL,h=>by
    have ho : ops[k]? = some o:=by simpa using hL 0 o (by simp)
    have hL' : ∀ j o',L[j]? = some o'→ops[k + 1 + j]? = some o':=fun j o' hj=>by
      have:=hL (j + 1) o' (by simpa using hj)
      rwa [show k + 1 + j = k + (j + 1) from by omega]
    have hop : opAtM ops (markOf fl ld lx) k = (o,markOf fl ld lx k):=by simp [opAtM,ho]
    rw [List.length_cons,List.range'_succ,List.map_cons,hop]
    simp only [AXr0] at h
    split at h
    · rename_i hl
      have hm : markOf fl ld lx k = 1:=by unfold markOf; rw [if_pos hl]
      rw [hm]
      simp only [AXm,if_pos (Nat.le_refl 1)]
      refine ⟨h.1,?_⟩
      have h:=h.2
      unfold pvalM
      rw [if_pos rfl]
      split at h
      · rename_i v hv; first | (simp only [hv]; exact AXr0_AXm L (k + 1) hL' h) | (rw [hv]; exact AXr0_AXm L (k + 1) hL' h) | exact AXr0_AXm L (k + 1) hL' h
      · exact h.elim
    · rename_i hl
      split at h
      · rename_i hf
        have hm : markOf fl ld lx k = 2:=by unfold markOf; rw [if_neg hl,if_pos hf]
        rw [hm]
        simp only [AXm]
        rw [if_neg (by omega)]
        rw [ay] at h
        exact AX_mono _ (fun E' s' hE=>⟨fun _=>hE.1,AXr0_AXm L (k + 1) hL' hE.2⟩) h
      · rename_i hf
        split at h
        · rename_i hx
          have hm : markOf fl ld lx k = 3:=by unfold markOf; rw [if_neg hl,if_neg hf,if_pos hx]
          rw [hm]
          simp only [AXm]
          rw [if_neg (by omega)]
          rw [ay] at h
          refine AX_mono _ (fun E' s' hE=>⟨fun hn=>hE.1 ?_,AXr0_AXm L (k + 1) hL' hE.2⟩) h
          rcases hn with hn | hn
          · omega
          · unfold needs at hn
            rw [List.any_eq_true] at hn ⊢
            obtain ⟨x,hx1,hx2⟩:=hn
            obtain ⟨i,hi,rfl⟩:=List.mem_map.1 hx1
            have hik : k + 1≤i:=by
              rw [List.mem_range'] at hi
              obtain ⟨j,_,rfl⟩:=hi
              omega
            have hmi : markOf fl ld lx i = 1:=by simpa [opAtM] using hx2
            have hc : ld.contains i = true:=by
              unfold markOf at hmi
              split at hmi
              · assumption
              · split at hmi
                · omega
                · split at hmi <;> omega
            refine ⟨i,by simpa using hc,by simp; omega⟩
        · rename_i hx
          have hm : markOf fl ld lx k = 0:=by unfold markOf; rw [if_neg hl,if_neg hf,if_neg hx]
          rw [hm]
          simp only [AXm,if_pos (Nat.zero_le 1)]
          refine ⟨h.1,?_⟩
          have h:=h.2
          unfold pvalM
          rw [if_neg (by omega)]
          split at h
          · rename_i v hv; first | (simp only [hv]; exact AXr0_AXm L (k + 1) hL' h) | (rw [hv]; exact AXr0_AXm L (k + 1) hL' h) | exact AXr0_AXm L (k + 1) hL' h
          · exact h.elim
theorem axr_is : ∃ f : Program→(Nat→List AV)→Nat→Array Oper→Fz→List Nat→List Nat→List Nat→Nat→List Oper→(Env→AS→Prop)→Env→AS→Prop,f = AXr0:=⟨_,rfl⟩
noncomputable def AXr : Program→(Nat→List AV)→Nat→Array Oper→Fz→List Nat→List Nat→List Nat→Nat→List Oper→(Env→AS→Prop)→Env→AS→Prop:=Classical.choose axr_is
theorem axr : AXr = AXr0:=Classical.choose_spec axr_is
variable {F : Fz} {fl ld lx : List Nat} {k : Nat} {K : Env→AS→Prop} {E : Env} {o : Oper} {rest : List Oper}
theorem AXr_nil : AXr P Γ N ops F fl ld lx k [] K E s = K E s:=by rw [axr]; rfl
theorem AXr_cons : AXr P Γ N ops F fl ld lx k (o :: rest) K E s =
    if ld.contains k = true then (∀ d,o.dst = some d→d < N)∧match gval ops o E (lval P F (aeval Γ E) o.op) with | some v=>AXr P Γ N ops F fl ld lx (k + 1) rest K (updO E o.dst v) s | none=>False
    else if fl.contains k = true then AY P Γ N ops [o] (fun E' s'=>Pres F s'∧AXr P Γ N ops F fl ld lx (k + 1) rest K E' s') E s
    else if lx.contains k = true then AY P Γ N ops [o] (fun E' s'=>((ld.any fun i=>decide (k < i)) = true→Pres F s')∧AXr P Γ N ops F fl ld lx (k + 1) rest K E' s') E s
    else (∀ d,o.dst = some d→d < N)∧match gval ops o E (aval P (aeval Γ E) o.op) with | some v=>AXr P Γ N ops F fl ld lx (k + 1) rest K (updO E o.dst v) s | none=>False:=by rw [axr]; rfl
theorem fzGet_nil (o : Nat) : fzGet [] o = none:=rfl
theorem fzGet_cons (a : Nat) (cs : List AV) (F : Fz) (o : Nat) : fzGet ((a,cs) :: F) o = if a = o then some cs else fzGet F o:=by
  unfold fzGet
  rw [List.find?_cons]
  by_cases h : a = o
  · subst h; simp
  · rw [if_neg h,show (a == o) = false from by simpa using h]
theorem Pres_nil : Pres [] s = True:=by simp [Pres]
theorem Pres_cons (a : Nat) (cs : List AV) (F : Fz) : Pres ((a,cs) :: F) s = (s.objs a = some cs∧Pres F s):=by simp [Pres]
end
section
variable {N : Nat} {E : Env} {Q : Exit→Env→AS→Prop}
theorem awp_mrk_end (hm : P.follows .mixedOrders = true) (F : Fz) (fl ld lx : List Nat) {id : Nat} {L : List Oper} (hok : drawOkM L.toArray (markOf fl ld lx) = true) (hP : Pres F s)
    (h : ∀ K : Env→AS→Prop,(∀ E s,Q .normal E s→K E s)→AXr P Γ N L.toArray F fl ld lx 0 L K E s) : AWp P Γ N (.region id L.toArray true) Q E s:=by
  refine awp_region_mark hm F (markOf fl ld lx) (markOf_le fl ld lx) hok hP ?_
  have h1:=h _ fun _ _ h=>h
  rw [axr] at h1
  have h2:=AXr0_AXm (ops:=L.toArray) L 0 (fun j o hj=>by simpa using hj) h1
  simpa [List.range_eq_range'] using h2
theorem awp_mrk_seq (hm : P.follows .mixedOrders = true) (F : Fz) (fl ld lx : List Nat) {id : Nat} {L : List Oper} {y : Code} (hok : drawOkM L.toArray (markOf fl ld lx) = true) (hP : Pres F s)
    (h : ∀ K : Env→AS→Prop,(∀ E s,AWp P Γ N y Q E s→K E s)→AXr P Γ N L.toArray F fl ld lx 0 L K E s) : AWp P Γ N (.seq (.region id L.toArray true) y) Q E s :=
  awp_seq (awp_mrk_end hm F fl ld lx hok hP fun K hK=>h K hK)
end
end Go.AM
namespace Go.AM
open Go Go.RowKit
variable {rd : Option Nat} {P : Program} {Γ : Nat→List AV} {G : Gh} {s : AS} {w : World}
theorem SRel.ext {w' : World} (h : SRel Γ G s w) (hb : Below w.heap.size w w') : SRel Γ G s w' where
  ro b j u hu:=by
    have:=h.ro b j u hu
    rw [hb.cell (World.block_lt_of_cell? w _ this)]
    exact this
  objs o cs hc:=by
    obtain ⟨b,vs,h1,h2,h3,h4⟩:=h.objs o cs hc
    have hlt:=h.objLt o b h1
    exact ⟨b,vs,h1,h2,h3,fun j u hu=>⟨by rw [hb.cell (p:=⟨b,j,none⟩) hlt]; exact (h4 j u hu).1,by rw [hb.frozen (p:=⟨b,j,none⟩) hlt]; exact (h4 j u hu).2.1,(h4 j u hu).2.2⟩⟩
  objLt o b hb':=Nat.lt_of_lt_of_le (h.objLt o b hb') hb.size
  inj:=h.inj
  own t e he:=by
    obtain ⟨b,st,en,h1,h2,h3,h4,h5,h6⟩:=h.own t e he
    refine ⟨b,st,en,h1,h2,h3,fun j hj hj'=>?_,h5,Nat.lt_of_lt_of_le h6 hb.size⟩
    obtain ⟨⟨u,hu⟩,h7,h8⟩:=h4 j hj hj'
    exact ⟨⟨u,by rw [hb.cell (p:=⟨b,j,none⟩) h6]; exact hu⟩,by rw [hb.frozen (p:=⟨b,j,none⟩) h6]; exact h7,h8⟩
  ownInj:=h.ownInj
  ownLast:=h.ownLast
  freshO:=h.freshO
  freshT:=h.freshT
  below:=h.below.trans (hb.mono h.base)
  others:=h.others.trans fun k o hk _=>(hb.block k (Array.getElem?_eq_some_iff.1 hk).1).trans hk
  base:=Nat.le_trans h.base hb.size
  glob:=h.glob
  maps b l hb':=by
    obtain ⟨m1,ob,m2,m3⟩:=h.maps b l hb'
    exact ⟨m1,ob,by rw [hb.block b (Array.getElem?_eq_some_iff.1 m2).1]; exact m2,m3⟩
  soft b c T lo hi hB hh:=by
    rw [hb.block b (h.knLt hB)] at hh
    exact h.soft b c T lo hi hB hh
def View (Γ : Nat→List AV) (s : AS) (a b : AV) : Prop:=∀ G w u,SRel Γ G s w→VRel G a u→VRel (G0 w) b u
def Views (Γ : Nat→List AV) (s : AS) (as bs : List AV) : Prop:=∀ G w us,SRel Γ G s w→VRels G as us→VRels (G0 w) bs us
theorem Views.nil : Views Γ s [] []:=fun G w us _ h=>by simpa [VRels] using h
theorem Views.cons {a b : AV} {as bs : List AV} (h : View Γ s a b) (k : Views Γ s as bs) : Views Γ s (a :: as) (b :: bs):=by
  intro G w us hs hv
  simp only [VRels] at hv ⊢
  obtain ⟨u,us',rfl,h1,h2⟩:=hv
  exact ⟨u,us',rfl,h G w u hs h1,k G w us' hs h2⟩
theorem View.val {x : Value} : View Γ s (.v x) (.v x):=fun G w u _ h=>by simpa [VRel] using h
theorem View.agg {as bs : List AV} (h : Views Γ s as bs) : View Γ s (.agg as) (.agg bs):=by
  intro G w u hs hv
  simp only [VRel] at hv ⊢
  obtain ⟨vs,h1,h2⟩:=hv
  exact ⟨vs,h1,h G w vs hs h2⟩
theorem Views.flat : ∀ {cs : List AV},(∀ c ∈ cs,∃ x,c = .v x)→Views Γ s cs cs
  | [],_=>.nil
  | c :: cs,h=>by
    obtain ⟨x,rfl⟩:=h c (by simp)
    exact .cons .val (Views.flat fun c hc=>h c (by simp [hc]))
theorem RoAt.view {b off : Nat} {vs : List Value} (hs : SRel Γ G s w) (h : RoAt G b off vs) : RoAt (G0 w) b off vs:=fun j u hj=>hs.ro _ _ _ (h j u hj)
theorem View.sl {sz n : Nat} {cs : List AV} (h : ∀ c ∈ cs,∃ x,c = .v x) : View Γ s (.sl sz n cs .any) (.sl sz n cs .any):=by
  intro G w u hs hv
  simp only [VRel] at hv ⊢
  rcases hv with ⟨b,off,cap,vs,h1,h2,h3,h4,h5,h6⟩ | hv
  · exact .inl ⟨b,off,cap,vs,h1,h2,h3,Views.flat h G w vs hs h4,h5.view hs,trivial⟩
  · exact .inr hv
theorem View.rop {cs : List AV} (h : ∀ c ∈ cs,∃ x,c = .v x) : View Γ s (.rop cs) (.rop cs):=by
  intro G w u hs hv
  simp only [VRel] at hv ⊢
  obtain ⟨b,off,vs,h1,h4,h5⟩:=hv
  exact ⟨b,off,vs,h1,Views.flat h G w vs hs h4,h5.view hs⟩
theorem View.osl {o sz n cap : Nat} {cs : List AV} (ho : s.objs o = some cs) (hl : cs.length = n * sz) (h : ∀ c ∈ cs,∃ x,c = .v x) : View Γ s (.osl o 0 sz n cap) (.sl sz n cs .any):=by
  intro G w u hs hv
  simp only [VRel] at hv ⊢
  obtain ⟨b,h1,h2,h3⟩:=hv
  obtain ⟨b',vs,k1,k2,k3,k4⟩:=hs.objs o cs ho
  rw [h1] at k1
  cases k1
  refine .inl ⟨b,0,cap,vs,h2,hl,h3,Views.flat h G w vs hs k2,fun j u hj=>?_,trivial⟩
  rw [Nat.zero_add]
  exact (k4 j u hj).1
theorem View.ptr {o : Nat} {cs ds : List AV} (ho : s.objs o = some cs) (h : Views Γ s cs ds) : View Γ s (.ptr o 0) (.rop ds):=by
  intro G w u hs hv
  simp only [VRel] at hv ⊢
  obtain ⟨b,h1,h2⟩:=hv
  obtain ⟨b',vs,k1,k2,k3,k4⟩:=hs.objs o cs ho
  rw [h1] at k1
  cases k1
  refine ⟨b,0,vs,h2,h G w vs hs k2,fun j u hj=>?_⟩
  rw [Nat.zero_add]
  exact (k4 j u hj).1
theorem View.weak {a b c : AV} (h : View Γ s a b) (k : b.weak c) : View Γ s a c:=fun G w u hs hv=>k _ _ (h G w u hs hv)
theorem ACalls.view {f : FuncId} {args args' : List AV} {x : Value} (h : ACalls P Γ0 f args s0 (fun r _=>r = .v x)) (hv : Views Γ s args' args) : ACalls P Γ f args' s (fun r s'=>r = .v x∧s' = s):=by
  intro G w vs hs ha
  refine (h (G0 w) w vs (SRel.start Γ0 w (glob0 w)) (hv G w vs hs ha)).mono ?_
  rintro e w' ⟨G',r,v,s',rfl,h1,h2,h3,rfl⟩
  simp only [VRel] at h3
  subst h3
  have hb:=h2.below
  rw [h1.B,h1.w0] at hb
  exact ⟨G,.v v,v,s,rfl,.refl G,hs.ext hb,by simp [VRel],rfl,rfl⟩
theorem SRel.cut {o : Nat} {ds r : List AV} (h : SRel Γ G (s.set o (ds ++ r)) w) : SRel Γ G (s.set o ds) w where
  ro:=h.ro
  objs o' cs hc:=by
    by_cases e : o' = o
    · subst e
      simp [AS.set] at hc
      subst hc
      obtain ⟨b,vs,h1,h2,h3,h4⟩:=h.objs o' (ds ++ r) (by simp [AS.set])
      refine ⟨b,vs.take ds.length,h1,?_,h3,fun j u hj=>h4 j u ?_⟩
      · have:=h2.take ds.length
        rwa [List.take_left] at this
      · rw [List.getElem?_take] at hj
        split at hj
        · exact hj
        · cases hj
    · exact h.objs o' cs (by simpa [AS.set,upd,e] using hc)
  objLt:=h.objLt
  inj:=h.inj
  own:=h.own
  ownInj:=h.ownInj
  ownLast:=h.ownLast
  freshO:=h.freshO
  freshT:=h.freshT
  below:=h.below
  others:=h.others
  base:=h.base
  glob:=h.glob
  soft:=h.soft
  maps:=h.maps
theorem AX_wpOps_append {N : Nat} {ops : Array Oper} {Q : Exit→Act→World→Prop} {K : Env→AS→Prop} : ∀ (L : List Oper) (I J : List Nat) {G : Gh} {E : Env} {s : AS} {a : Act} {w : World},I.map (ops[·]?) = L.map some→AX P Γ N ops L K E s→Rel Γ N G E s a w →
    (∀ G' E' s' a' w',G.le G'→Rel Γ N G' E' s' a' w'→K E' s'→wpOpsIn (fen rd) 0 P ops Q J a' w')→wpOpsIn (fen rd) 0 P ops Q (I ++ J) a w
  | [],I,J,G,E,s,a,w,hI,h,hr,hq=>by
    have : I = []:=by simpa using hI
    subst this
    exact hq G E s a w (.refl G) hr h
  | o :: L,I,J,G,E,s,a,w,hI,h,hr,hq=>by
    cases I with
    | nil=>simp at hI
    | cons i I =>
      simp only [List.map_cons,List.cons.injEq] at hI
      rw [List.cons_append,wpOpsIn_cons]
      exact AX_step hI.1 h hr fun G' E' s' a' w' h1 h2 h3=>AX_wpOps_append L I J hI.2 h3 h2 fun G'' E'' s'' a'' w'' k1 k2 k3=>hq G'' E'' s'' a'' w'' (h1.trans k1) k2 k3
end Go.AM
namespace Go.AM
open Go Go.RowKit
end Go.AM
