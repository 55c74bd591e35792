/- An abstract machine for the model and the rules of its walk, each proved sound over the model; no condition. -/
import Derived.Test.YtcjifoccjlpapaaGreatDoorAMp4
set_option linter.unusedSimpArgs false
set_option linter.unusedVariables false
namespace Go.AM
open Go Go.RowKit
theorem ff1 (a : Bool) : (a = false)∨(a = true):=by cases a <;> simp
theorem OE (a b : Bool) : (a = false)∨(a = true∧b = false)∨(a = true∧b = true):=by
  cases a
  · exact .inl rfl
  · rcases ff1 b with h | h
    · exact .inr (.inl ⟨rfl,h⟩)
    · exact .inr (.inr (⟨rfl,h⟩))
theorem N5 (a b c : Bool) : (a = false)∨(a = true∧b = false)∨(a = true∧b = true∧c = false)∨(a = true∧b = true∧c = true):=by
  cases a
  · exact .inl rfl
  · rcases OE b c with h | h | h
    · exact .inr (.inl ⟨rfl,h⟩)
    · exact .inr (.inr (.inl ⟨rfl,h⟩))
    · exact .inr (.inr (.inr (⟨rfl,h⟩)))
theorem ff4 (a b c d : Bool) : (a = false)∨(a = true∧b = false)∨(a = true∧b = true∧c = false)∨(a = true∧b = true∧c = true∧d = false)∨(a = true∧b = true∧c = true∧d = true):=by
  cases a
  · exact .inl rfl
  · rcases N5 b c d with h | h | h | h
    · exact .inr (.inl ⟨rfl,h⟩)
    · exact .inr (.inr (.inl ⟨rfl,h⟩))
    · exact .inr (.inr (.inr (.inl ⟨rfl,h⟩)))
    · exact .inr (.inr (.inr (.inr (⟨rfl,h⟩))))
theorem ff5 (a b c d e : Bool) : (a = false)∨(a = true∧b = false)∨(a = true∧b = true∧c = false)∨(a = true∧b = true∧c = true∧d = false)∨(a = true∧b = true∧c = true∧d = true∧e = false)∨(a = true∧b = true∧c = true∧d = true∧e = true):=by
  cases a
  · exact .inl rfl
  · rcases ff4 b c d e with h | h | h | h | h
    · exact .inr (.inl ⟨rfl,h⟩)
    · exact .inr (.inr (.inl ⟨rfl,h⟩))
    · exact .inr (.inr (.inr (.inl ⟨rfl,h⟩)))
    · exact .inr (.inr (.inr (.inr (.inl ⟨rfl,h⟩))))
    · exact .inr (.inr (.inr (.inr (.inr (⟨rfl,h⟩)))))
theorem tt1 (a : Bool) : (a = true)∨(a = false):=by cases a <;> simp
theorem tt2 (a b : Bool) : (a = true)∨(a = false∧b = true)∨(a = false∧b = false):=by
  cases a
  · rcases tt1 b with h | h
    · exact .inr (.inl ⟨rfl,h⟩)
    · exact .inr (.inr (⟨rfl,h⟩))
  · exact .inl rfl
theorem tt3 (a b c : Bool) : (a = true)∨(a = false∧b = true)∨(a = false∧b = false∧c = true)∨(a = false∧b = false∧c = false):=by
  cases a
  · rcases tt2 b c with h | h | h
    · exact .inr (.inl ⟨rfl,h⟩)
    · exact .inr (.inr (.inl ⟨rfl,h⟩))
    · exact .inr (.inr (.inr (⟨rfl,h⟩)))
  · exact .inl rfl
theorem tt4 (a b c d : Bool) : (a = true)∨(a = false∧b = true)∨(a = false∧b = false∧c = true)∨(a = false∧b = false∧c = false∧d = true)∨(a = false∧b = false∧c = false∧d = false):=by
  cases a
  · rcases tt3 b c d with h | h | h | h
    · exact .inr (.inl ⟨rfl,h⟩)
    · exact .inr (.inr (.inl ⟨rfl,h⟩))
    · exact .inr (.inr (.inr (.inl ⟨rfl,h⟩)))
    · exact .inr (.inr (.inr (.inr (⟨rfl,h⟩))))
  · exact .inl rfl
theorem tt5 (a b c d e : Bool) : (a = true)∨(a = false∧b = true)∨(a = false∧b = false∧c = true)∨(a = false∧b = false∧c = false∧d = true)∨(a = false∧b = false∧c = false∧d = false∧e = true)∨(a = false∧b = false∧c = false∧d = false∧e = false):=by
  cases a
  · rcases tt4 b c d e with h | h | h | h | h
    · exact .inr (.inl ⟨rfl,h⟩)
    · exact .inr (.inr (.inl ⟨rfl,h⟩))
    · exact .inr (.inr (.inr (.inl ⟨rfl,h⟩)))
    · exact .inr (.inr (.inr (.inr (.inl ⟨rfl,h⟩))))
    · exact .inr (.inr (.inr (.inr (.inr (⟨rfl,h⟩)))))
  · exact .inl rfl
theorem tt6 (a b c d e f : Bool) : (a = true)∨(a = false∧b = true)∨(a = false∧b = false∧c = true)∨(a = false∧b = false∧c = false∧d = true)∨(a = false∧b = false∧c = false∧d = false∧e = true)∨(a = false∧b = false∧c = false∧d = false∧e = false∧f = true)∨(a = false∧b = false∧c = false∧d = false∧e = false∧f = false):=by
  cases a
  · rcases tt5 b c d e f with h | h | h | h | h | h
    · exact .inr (.inl ⟨rfl,h⟩)
    · exact .inr (.inr (.inl ⟨rfl,h⟩))
    · exact .inr (.inr (.inr (.inl ⟨rfl,h⟩)))
    · exact .inr (.inr (.inr (.inr (.inl ⟨rfl,h⟩))))
    · exact .inr (.inr (.inr (.inr (.inr (.inl ⟨rfl,h⟩)))))
    · exact .inr (.inr (.inr (.inr (.inr (.inr (⟨rfl,h⟩))))))
  · exact .inl rfl
theorem tt7 (a b c d e f g : Bool) : (a = true)∨(a = false∧b = true)∨(a = false∧b = false∧c = true)∨(a = false∧b = false∧c = false∧d = true)∨(a = false∧b = false∧c = false∧d = false∧e = true)∨(a = false∧b = false∧c = false∧d = false∧e = false∧f = true)∨(a = false∧b = false∧c = false∧d = false∧e = false∧f = false∧g = true)∨(a = false∧b = false∧c = false∧d = false∧e = false∧f = false∧g = false):=by
  cases a
  · rcases tt6 b c d e f g with h | h | h | h | h | h | h
    · exact .inr (.inl ⟨rfl,h⟩)
    · exact .inr (.inr (.inl ⟨rfl,h⟩))
    · exact .inr (.inr (.inr (.inl ⟨rfl,h⟩)))
    · exact .inr (.inr (.inr (.inr (.inl ⟨rfl,h⟩))))
    · exact .inr (.inr (.inr (.inr (.inr (.inl ⟨rfl,h⟩)))))
    · exact .inr (.inr (.inr (.inr (.inr (.inr (.inl ⟨rfl,h⟩))))))
    · exact .inr (.inr (.inr (.inr (.inr (.inr (.inr (⟨rfl,h⟩)))))))
  · exact .inl rfl
theorem tt8 (a b c d e f g h : Bool) : (a = true)∨(a = false∧b = true)∨(a = false∧b = false∧c = true)∨(a = false∧b = false∧c = false∧d = true)∨(a = false∧b = false∧c = false∧d = false∧e = true)∨(a = false∧b = false∧c = false∧d = false∧e = false∧f = true)∨(a = false∧b = false∧c = false∧d = false∧e = false∧f = false∧g = true)∨(a = false∧b = false∧c = false∧d = false∧e = false∧f = false∧g = false∧h = true)∨(a = false∧b = false∧c = false∧d = false∧e = false∧f = false∧g = false∧h = false):=by
  cases a
  · rcases tt7 b c d e f g h with h | h | h | h | h | h | h | h
    · exact .inr (.inl ⟨rfl,h⟩)
    · exact .inr (.inr (.inl ⟨rfl,h⟩))
    · exact .inr (.inr (.inr (.inl ⟨rfl,h⟩)))
    · exact .inr (.inr (.inr (.inr (.inl ⟨rfl,h⟩))))
    · exact .inr (.inr (.inr (.inr (.inr (.inl ⟨rfl,h⟩)))))
    · exact .inr (.inr (.inr (.inr (.inr (.inr (.inl ⟨rfl,h⟩))))))
    · exact .inr (.inr (.inr (.inr (.inr (.inr (.inr (.inl ⟨rfl,h⟩)))))))
    · exact .inr (.inr (.inr (.inr (.inr (.inr (.inr (.inr (⟨rfl,h⟩))))))))
  · exact .inl rfl
theorem tt9 (a b c d e f g h i : Bool) : (a = true)∨(a = false∧b = true)∨(a = false∧b = false∧c = true)∨(a = false∧b = false∧c = false∧d = true)∨(a = false∧b = false∧c = false∧d = false∧e = true)∨(a = false∧b = false∧c = false∧d = false∧e = false∧f = true)∨(a = false∧b = false∧c = false∧d = false∧e = false∧f = false∧g = true)∨(a = false∧b = false∧c = false∧d = false∧e = false∧f = false∧g = false∧h = true)∨(a = false∧b = false∧c = false∧d = false∧e = false∧f = false∧g = false∧h = false∧i = true)∨(a = false∧b = false∧c = false∧d = false∧e = false∧f = false∧g = false∧h = false∧i = false):=by
  cases a
  · rcases tt8 b c d e f g h i with h | h | h | h | h | h | h | h | h
    · exact .inr (.inl ⟨rfl,h⟩)
    · exact .inr (.inr (.inl ⟨rfl,h⟩))
    · exact .inr (.inr (.inr (.inl ⟨rfl,h⟩)))
    · exact .inr (.inr (.inr (.inr (.inl ⟨rfl,h⟩))))
    · exact .inr (.inr (.inr (.inr (.inr (.inl ⟨rfl,h⟩)))))
    · exact .inr (.inr (.inr (.inr (.inr (.inr (.inl ⟨rfl,h⟩))))))
    · exact .inr (.inr (.inr (.inr (.inr (.inr (.inr (.inl ⟨rfl,h⟩)))))))
    · exact .inr (.inr (.inr (.inr (.inr (.inr (.inr (.inr (.inl ⟨rfl,h⟩))))))))
    · exact .inr (.inr (.inr (.inr (.inr (.inr (.inr (.inr (.inr (⟨rfl,h⟩)))))))))
  · exact .inl rfl
def te.aL (a b : List AV) : Prop:=∀ G v,al G a v→al G b v
theorem te.aL.nil : te.aL [] []:=fun _ _ h=>h
theorem te.aL.refl (a : List AV) : te.aL a a:=fun _ _ h=>h
theorem te.aL.cons {x y : AV} {xs ys : List AV} (h : x.aL y) (k : te.aL xs ys) : te.aL (x :: xs) (y :: ys):=by
  intro G v hv;simp only [al] at hv ⊢;obtain ⟨u,us,rfl,h1,h2⟩:=hv;exact ⟨u,us,rfl,h G u h1,k G us h2⟩
theorem AV.fR {xs ys : List AV} (h : te.aL xs ys) : (AV.agg xs).aL (.agg ys):=by
  intro G v hv;simp only [ar] at hv ⊢;obtain ⟨vs,rfl,h1⟩:=hv;exact ⟨vs,rfl,h G vs h1⟩
theorem ah.jq {P : Program} {Γ : Nat→List AV} {f : FuncId} {args EV : List AV} {s : AS} {Q : AV→AS→Prop} (h : te.aL args EV) (k : ah P Γ f EV s Q) : ah P Γ f args s Q :=
  fun G w vs hs hv=>k G w vs hs (h G vs hv)
end Go.AM
namespace Go.AM
open Go Go.RowKit
variable {P : Program} {Γ : Nat→List AV}
theorem fw.lQ {N : Nat} {E : Env} {s : AS} {d o : Nat} {cs : List AV} (hE : E d = .ptr o 0) (ho : s.aJ o = some cs) :
    fw Γ N E s (aG E d (.cX cs)) (s.drop o):=by
  intro G a w hr;obtain ⟨b,vs,h1,h2,h3,h4,h5⟩:=hr.st.freeze ho;refine ⟨_,h3,h5,hr.size,fun i=>?_,hr.defers.trans h3.df.symm⟩;simp only [aG];split
  · rename_i e;subst e;have:=hr.tmps i;rw [hE] at this;simp only [ar] at this;obtain ⟨b',k1,k2⟩:=this;rw [h1] at k1; cases k1;rw [k2];simp only [ar];exact ⟨b,0,vs,rfl,al.mono h3 _ _ h2,h4⟩
  · exact ar.mono h3 _ _ (hr.tmps i)
theorem AS.drop_set {s : AS} {o : Nat} (ho : s.aJ o = none) (cs : List AV) : (s.set o cs).drop o = s:=by
  cases s with
  | mk aJ own =>
    simp only [AS.set,AS.drop,AS.mk.injEq,and_true];funext i;simp only [aG];split
    · rename_i e; subst e; exact ho.symm
    · rfl
theorem az {N : Nat} {E : Env} {s : AS} {Q : Exit→Env→AS→Prop} (d : Nat) {id : Nat} {L : List Oper} {y : Code} (hd : d ∈ bP L)
    (h : ∀ K : Env→AS→Prop,(∀ E s o cs,E d = .ptr o 0→s.aJ o = none→cI P Γ N y Q (aG E d (.cX cs)) s→K E (s.set o cs))→AY P Γ N L.toArray L K E s) : cI P Γ N (.seq (.region id L.toArray false) y) Q E s:=by
  refine kk (jz ?_);have:=h (fun E' s'=>∃ iG im,fw Γ N E' s' iG im∧(∀ i,i ∉ bP L→iG i = E' i)∧av (cI P Γ N y Q) Q .normal iG im) ?_
  · rw [ay] at this;simpa using this
  · intro E' s' o cs h1 h2 h3;refine ⟨aG E' d (.cX cs),s',?_,?_,h3⟩
    · have:=fw.lQ (Γ:=Γ) (N:=N) (E:=E') (s:=s'.set o cs) (d:=d) h1 (AS.aj _ _ _);rwa [AS.drop_set h2] at this
    · intro i hi;exact eG _ _ (fun e=>hi (e ▸ hd))
end Go.AM
namespace Go.AM
open Go Go.RowKit
variable {P : Program} {Γ : Nat→List AV}
abbrev xgl (st : IM) : List AV:=[ak st.1 .any,.v (.int .i64 st.2)]
abbrev xds (st : IM) : List AV:=[.v (.string ⟨st.1.toArray⟩),.v (.int .i64 st.2)]
theorem ah.forget {f : FuncId} {args : List AV} {s : AS} {Q R : AV→AS→Prop} (h : ah P Γ f args s Q) (k : ∀ r s',Q r s'→∃ im,im.le s'∧R r im) : ah P Γ f args s R:=by
  intro G w vs hs hv;refine (h G w vs hs hv).mono ?_;rintro e w' ⟨G',r,v,s',h1,h2,h3,h4,h5⟩;obtain ⟨im,k1,k2⟩:=k r s' h5;exact ⟨G',r,v,im,h1,h2,h3.mono k1,h4,k2⟩
theorem AS.aR (s : AS) {o p : Nat} (h : p≠o) (cs : List AV) : (s.set o cs).aJ p = s.aJ p:=by simp [AS.set,aG,h]
theorem AS.Ch {s : AS} {o p : Nat} {cs : List AV} (h : (s.set o cs).aJ p = none) : p≠o∧s.aJ p = none:=by
  by_cases e : p = o
  · subst e; simp [AS.set] at h
  · exact ⟨e,by simpa [AS.set,aG,e] using h⟩
theorem iX {E : Env} {s : AS} {cO : AV→AS→Prop} {a T t o off : Nat} {cs : List AV} {v : AV} (h1 : E a = .ptr o off) (h2 : s.aJ o = some cs) (h3 : P.cellsOf T≠0) (h4 : pO P T (cs.drop off) = some v)
    (h : ∃ r s',(AV.dZ [v,E t]).aL r∧s'.le s∧cO r s') : cF P [.cell a T,.tmp t] cO .ret E s:=by
  simp only [cF,bI,bM,dh,h1,h2,if_neg h3,h4];exact h
theorem jX {E : Env} {s : AS} {cO : AV→AS→Prop} {a T o off : Nat} {cs : List AV} {v : AV} (h1 : E a = .ptr o off) (h2 : s.aJ o = some cs) (h3 : P.cellsOf T≠0) (h4 : pO P T (cs.drop off) = some v)
    (h : ∃ r s',v.aL r∧s'.le s∧cO r s') : cF P [.cell a T] cO .ret E s:=by
  simp only [cF,bI,bM,dh,h1,h2,if_neg h3,h4];exact h
theorem AS.OG (s : AS) {p o : Nat} (h : p≠o) (a b c : List AV) : ((s.set p a).set o b).set p c = (s.set p c).set o b:=by
  simp only [AS.set,AS.mk.injEq,and_true];funext i;simp only [aG];by_cases h1 : i = p
  · subst h1; simp [h]
  · simp [h1]
end Go.AM
namespace Go.AM
open Go Go.RowKit
theorem b7 {a b : Ty} {iu : List AV} (h : LC (.cons a b) iu) : ∃ x y,iu = x ++ y∧cP a x∧LC b y:=by simpa only [LC] using h
theorem pq {iu : List AV} (h : LC .nil iu) : iu = []:=by simpa only [LC] using h
theorem gH {b : Ty} {iu : List AV} (h : cP (.struct b) iu) : LC b iu:=by simpa only [cP] using h
theorem iY {k : IntKind} {iu : List AV} (h : cP (.int k) iu) : ∃ n,iu = [.v (.int k n)]∧(Lit.int k n).wf = true:=by simpa only [cP] using h
abbrev EW : Ty:=.slice 1 (.int .u8)
abbrev Ho : Ty:=.int .i64
end Go.AM
namespace Go.AM
open Go Go.RowKit
variable {rd : Option Nat} {P : Program} {Γ : Nat→List AV} {G : Gh} {s : AS} {w : World}
abbrev Fz:=List (Nat × List AV)
def kT (F : Fz) (s : AS) : Prop:=∀ x ∈ F,s.aJ x.1 = some x.2
def xt (F : Fz) (o : Nat) : Option (List AV):=(F.find? (fun x=>x.1 == o)).map (·.2)
theorem Hp {F : Fz} {s : AS} (h : kT F s) {o : Nat} {cs : List AV} (hg : xt F o = some cs) : s.aJ o = some cs:=by
  unfold xt at hg;rw [Option.map_eq_some_iff] at hg;obtain ⟨x,h1,rfl⟩:=hg;have h2:=List.mem_of_find?_eq_some h1;have h3:=List.find?_some h1;simp only [beq_iff_eq] at h3;rw [← h3];exact h x h2
def eP (P : Program) (F : Fz) (ρ : Operand→AV) (op : Op) : Option AV :=
  match op with
  | .load T x=>match ρ x with
    | .ptr o off=>match xt F o with
      | some cs=>if P.cellsOf T = 0 then none else pO P T (cs.drop off)
      | none=>none
    | _=>none
  | _=>none
theorem Hq {F : Fz} {ρ ρ' : Operand→AV} {op : Op} (h : ∀ x ∈ op.operands,ρ x = ρ' x) : eP P F ρ op = eP P F ρ' op:=by
  cases op <;> simp only [eP];case load T x=>rw [h x (by simp [Op.operands])]
section
variable {N : Nat} {ops : Array Oper}
def eR (ops : Array Oper) (o : Oper) (E : Env) (v : Option AV) : Option AV :=
  match o.guard with
  | none=>v
  | some (j,want) =>
    match rS ops j with
    | none=>none
    | some d =>
      match E d with
      | .v (.bool t)=>if t = want then v else some (.v undef)
      | .v (.tuple _)=>some (.v undef)
      | _=>none
def sD (P : Program) (Γ : Nat→List AV) (ops : Array Oper) (F : Fz) (m : Nat) (o : Oper) (E : Env) : Option AV :=
  eR ops o E (if m = 1 then eP P F (aN Γ E) o.op else dg P (aN Γ E) o.op)
theorem nE {F : Fz} {m : Nat} {o : Oper} {E E' : Env} (h : ∀ d,d ∈ o.looksAt ops→E' d = E d) : sD P Γ ops F m o E' = sD P Γ ops F m o E:=by
  have nf : ∀ x ∈ o.op.operands,aN Γ E' x = aN Γ E x:=fun x hx=>by
    cases x with
    | tmp t=>exact h t (List.mem_append_left _ (List.mem_filterMap.2 ⟨.tmp t,by simpa using hx,rfl⟩))
    | const v=>rfl
    | global g=>rfl
    | func f=>rfl
  unfold sD;rw [Hq nf,ph nf];unfold eR;split
  · rfl
  · rename_i j want hg;split
    · rfl
    · rename_i d hj;have : E' d = E d:=h d (by
        by_cases hd : d ∈ o.looksAt ops
        · exact hd
        · exact absurd hj (qq hd hg))
      rw [this]
def jr (L : List (Oper × Nat)) : Bool:=L.any fun x=>x.2 == 1
def qg (P : Program) (Γ : Nat→List AV) (N : Nat) (ops : Array Oper) (F : Fz) : List (Oper × Nat)→(Env→AS→Prop)→Env→AS→Prop
  | [],K,E,s=>K E s
  | (o,m) :: rest,K,E,s =>
    if m≤1 then (∀ d,o.dst = some d→d < N)∧match sD P Γ ops F m o E with | some v=>qg P Γ N ops F rest K (bD E o.dst v) s | none=>False
    else AX P Γ N ops [o] (fun E' s'=>((m = 2∨jr rest = true)→kT F s')∧qg P Γ N ops F rest K E' s') E s
theorem ux {F : Fz} : ∀ (L : List (Oper × Nat)) {K K' : Env→AS→Prop} {E : Env} {s : AS},(∀ E s,K E s→K' E s)→qg P Γ N ops F L K E s→qg P Γ N ops F L K' E s
  | [],K,K',E,s,hk,h=>hk _ _ h
  | (o,m) :: L,K,K',E,s,hk,h=>by
    simp only [qg] at h ⊢;split at h
    · rename_i he;rw [if_pos he];refine ⟨h.1,?_⟩;have h:=h.2;split at h
      · exact ux L hk h
      · exact h
    · rename_i he; rw [if_neg he]; exact dp _ (fun E s h=>⟨h.1,ux L hk h.2⟩) h
theorem jY {x : Oper × Nat} {L : List (Oper × Nat)} : jr (x :: L) = ((x.2 == 1) || jr L):=rfl
theorem pr {L M : List (Oper × Nat)} : jr (L ++ M) = (jr L || jr M):=by simp [jr]
theorem LG {F : Fz} {o : Oper} {m : Nat} {L : List (Oper × Nat)} {E : Env} {K : Env→AS→Prop} (hp : jr ((o,m) :: L) = true→kT F s) (h : qg P Γ N ops F ((o,m) :: L) K E s) :
    AX P Γ N ops [o] (fun E' s'=>(jr L = true→kT F s')∧qg P Γ N ops F L K E' s') E s:=by
  have QD : jr L = true→kT F s:=fun h=>hp (by rw [jY,h,Bool.or_true]);simp only [qg] at h;split at h
  · rename_i hm;have core : ∀ v,(if m = 1 then eP P F (aN Γ E) o.op else dg P (aN Γ E) o.op) = some v→qg P Γ N ops F L K (bD E o.dst v) s →
        cE P Γ (aN Γ E) s (fun r s'=>(jr L = true→kT F s')∧qg P Γ N ops F L K (bD E o.dst r) s') o.op:=by
      intro v hv hK;by_cases h1 : m = 1
      · rw [if_pos h1] at hv;have hP : kT F s:=hp (by rw [jY]; simp [h1]);cases nf : o.op <;> rw [nf] at hv <;> simp only [eP] at hv <;> try (cases hv; done)
        rename_i T x;cases hx : aN Γ E x <;> rw [hx] at hv <;> simp only at hv <;> try (cases hv; done)
        rename_i ob off;cases hg : xt F ob with
        | none=>rw [hg] at hv; cases hv
        | some cs =>
          rw [hg] at hv;simp only at hv;split at hv
          · cases hv
          · rename_i hc;have ha : dg P (aN Γ E) (.load T x) = none:=(by simp only [dg,hx]);simp only [cE,ha,po,hx,Hp hP hg,hv];exact ⟨hc,QD,hK⟩
      · rw [if_neg h1] at hv;simp only [cE,hv];exact ⟨QD,hK⟩
    simp only [AX];refine ⟨h.1,?_⟩;have h:=h.2;unfold sD eR at h;cases hg : o.guard with
    | none =>
      simp only [hg] at h;split at h
      · rename_i v hv; exact core v hv h
      · exact h.elim
    | some p =>
      obtain ⟨j,want⟩:=p;simp only [hg] at h;cases hj : rS ops j with
      | none=>simp [hj] at h
      | some d =>
        simp only [hj] at h ⊢;split
        · rename_i t hE;simp only [hE] at h;split
          · rename_i ht;simp only [if_pos ht] at h;split at h
            · rename_i v hv; exact core v hv h
            · exact h.elim
          · rename_i ht;simp only [if_neg ht] at h;exact ⟨QD,h⟩
        · rename_i c hE;simp only [hE] at h;exact ⟨QD,h⟩
        · rename_i dz vG;split at h
          · rename_i v hv;split at hv
            · rename_i t hE;exact absurd hE (dz t)
            · rename_i c hE;exact absurd hE (vG c)
            · cases hv
          · exact h
  · exact dp _ (fun E' s' hE=>⟨fun hn=>hE.1 (.inr hn),hE.2⟩) h
theorem zn {F : Fz} {y : Oper} {m : Nat} (hm : m≤1) {L2 : List (Oper × Nat)} {K : Env→AS→Prop} : ∀ (L1 : List (Oper × Nat)) {G : Gh} {E : Env} {s : AS} {a : Act} {w : World},(∀ x ∈ L1,gu ops x.1 y)→(jr (L1 ++ (y,m) :: L2) = true→kT F s)→qg P Γ N ops F (L1 ++ (y,m) :: L2) K E s→Rel Γ N G E s a w →
    (∀ d,y.dst = some d→d < N)∧∃ v,sD P Γ ops F m y E = some v
  | [],G,E,s,a,w,_,hp,h,hr=>by
    simp only [List.nil_append,qg,if_pos hm] at h;refine ⟨h.1,?_⟩;have h:=h.2;split at h
    · rename_i v hv; exact ⟨v,hv⟩
    · exact h.elim
  | (x,ex) :: L1,G,E,s,a,w,lB,hp,h,hr=>by
    obtain ⟨G',E',s',a',w',Bf,hK,hf⟩:=nC (LG hp h) hr;obtain ⟨h1,v,h2⟩:=zn hm L1 (fun x hx=>lB x (List.mem_cons_of_mem _ hx)) hK.1 hK.2 Bf;refine ⟨h1,v,?_⟩;rw [← h2];refine (nE fun d hd=>hf d fun e=>?_).symm;exact (Oper.apart_spec (lB (x,ex) (by simp))).1 d e hd
theorem ml {F : Fz} {y : Oper} {m : Nat} (hm : m≤1) {L2 : List (Oper × Nat)} {K : Env→AS→Prop} {v : AV} : ∀ (L1 : List (Oper × Nat)) {E : Env} {s : AS},(∀ x ∈ L1,gu ops x.1 y)→sD P Γ ops F m y E = some v→qg P Γ N ops F (L1 ++ (y,m) :: L2) K E s →
    qg P Γ N ops F (L1 ++ L2) K (bD E y.dst v) s
  | [],E,s,_,hv,h=>by
    simp only [List.nil_append,qg,if_pos hm,hv] at h;exact h.2
  | (x,ex) :: L1,E,s,lB,hv,h=>by
    obtain ⟨a1,a2,a3⟩:=Oper.apart_spec (lB (x,ex) (by simp));have tb : ∀ x ∈ L1,gu ops x.1 y:=fun x hx=>lB x (List.mem_cons_of_mem _ hx);have Qy : ∀ E' : Env,(∀ i,x.dst≠some i→E' i = E i)→sD P Γ ops F m y E' = some v:=fun E' hE=>by
      rw [nE (E:=E) fun d hd=>hE d fun e=>a1 d e hd,hv]
    simp only [List.cons_append,qg] at h ⊢;split at h
    · rename_i he;rw [if_pos he];refine ⟨h.1,?_⟩;have h:=h.2;rw [nE (E:=E) fun d hd=>cq fun e=>a3 d e hd];split at h
      · rename_i u hu;simp only [hu];rw [oz (fun d h1 h2=>a2 d h2 h1)];exact ml hm L1 tb (Qy _ fun i hi=>cq hi) h
      · exact h.elim
    · rename_i he;rw [if_neg he];refine (vF (fun d hd=>a3 d hd) (fun d hd e=>a2 d e hd)).2 ?_;refine dp _ (fun E' s' hE=>?_) (dL h);refine ⟨fun hn=>hE.1.1 (hn.imp id fun hn=>?_),ml hm L1 tb (Qy E' hE.2) hE.1.2⟩;rw [pr] at hn ⊢;rw [jY];simp only [Bool.or_eq_true] at hn ⊢;rcases hn with hn | hn
      · exact .inl hn
      · exact .inr (.inr hn)
theorem sE {F : Fz} {y : Oper} {m : Nat} (hm : ¬ m≤1) {L2 : List (Oper × Nat)} {K : Env→AS→Prop} : ∀ (L1 : List (Oper × Nat)) {E : Env} {s : AS},(∀ x ∈ L1,gu ops x.1 y∧x.2≤1∧(m≠2→x.2≠1))→qg P Γ N ops F (L1 ++ (y,m) :: L2) K E s →
    AX P Γ N ops [y] (fun E' s'=>((m = 2∨jr (L1 ++ L2) = true)→kT F s')∧qg P Γ N ops F (L1 ++ L2) K E' s') E s
  | [],E,s,_,h=>by simpa only [List.nil_append,qg,if_neg hm] using h
  | (x,ex) :: L1,E,s,lB,h=>by
    obtain ⟨Lu,hex,hl⟩:=lB (x,ex) (by simp);simp only at hex hl;obtain ⟨a1,a2,a3⟩:=Oper.apart_spec Lu;have tb : ∀ x ∈ L1,gu ops x.1 y∧x.2≤1∧(m≠2→x.2≠1):=fun x hx=>lB x (List.mem_cons_of_mem _ hx);simp only [List.cons_append,qg,if_pos hex] at h;obtain ⟨h0,h⟩:=h;split at h
    · rename_i v hv;have h1:=sE hm L1 tb h;have h2:=(vF (fun d hd=>a1 d hd) (fun d hd=>a2 d hd)).1 h1;refine dp _ (fun E' s' hE=>⟨?_,?_⟩) (dL h2)
      · intro hn;refine hE.1.1 ?_;by_cases h2 : m = 2
        · exact .inl h2
        · refine .inr ?_;rcases hn with hn | hn
          · exact absurd hn h2
          · rw [List.cons_append,jY] at hn;simpa [hl h2] using hn
      · simp only [List.cons_append,qg,if_pos hex];refine ⟨h0,?_⟩;rw [nE (E:=E) fun d hd=>hE.2 d fun e=>a3 d e hd,hv];exact hE.1.2
    · exact h.elim
def gl (fl ld lx : List Nat) (i : Nat) : Nat:=if ld.contains i then 1 else if fl.contains i then 2 else if lx.contains i then 3 else 0
def EX (ops : Array Oper) (D : List Nat) (mk : Nat→Nat) : Bool :=
  (List.range ops.size).all fun j=>(List.range j).all fun i =>
    match ops[i]?,ops[j]? with
    | some x,some y=>(D.getD j 0).testBit i || (x.apart ops y && !(decide (2≤mk i) && decide (2≤mk j)) && !(mk i == 1 && mk j == 3))
    | _,_=>true
def uy (ops : Array Oper) (mk : Nat→Nat) : Bool:=B4 ops (Region.before ops).toList && EX ops (Region.before ops).toList mk
def fA (ops : Array Oper) (mk : Nat→Nat) (i : Nat) : Oper × Nat:=((ops[i]?).getD default,mk i)
theorem Dd {F : Fz} {mk : Nat→Nat} (hmk : ∀ i,mk i≤3) {Q : Exit→Act→World→Prop} {K : Env→AS→Prop} (kS : uy ops mk = true) :
    ∀ (fuel : Nat) (listed : Array Bool) {G : Gh} {E : Env} {s : AS} {a : Act} {w : World},listed.size = ops.size→(left ops listed).length≤fuel →
      (∀ (i : Nat) (o : Oper),ops[i]? = some o→listed.getD i true = true→∀ e ∈ o.after.toList,Region.binds .any e = true→listed.getD e.on false = true) →
      (jr ((left ops listed).map (fA ops mk)) = true→kT F s)→qg P Γ N ops F ((left ops listed).map (fA ops mk)) K E s→Rel Γ N G E s a w →
      (∀ G' E' s' a' w',G.le G'→Rel Γ N G' E' s' a' w'→K E' s'→Q .normal a' w')→wpAnyIn (xf rd) 0 P .any ops Q fuel listed a w:=by
  simp only [uy,Bool.and_eq_true] at kS
  obtain ⟨EB,mh⟩:=kS
  intro fuel
  have rT : ∀ (listed : Array Bool),Region.ready .any ops listed = []→left ops listed = []:=by
    intro listed h
    -- the first that is left could go
    cases hl : left ops listed with
    | nil=>rfl
    | cons i L =>
      exfalso
      have hi : i ∈ left ops listed:=by rw [hl]; simp
      obtain ⟨h1,h2⟩:=mem_left.1 hi
      have Hj : ∀ j,j < i→listed.getD j true = true:=by
        intro j hj
        cases JI : listed.getD j true with
        | true=>rfl
        | false =>
          exfalso
          have ID : j ∈ left ops listed:=mem_left.2 ⟨by omega,JI⟩
          have hs : (left ops listed).Pairwise (· < ·):=by
            unfold left
            exact List.Pairwise.filter _ List.pairwise_lt_range
          rw [hl] at hs ID
          rcases List.mem_cons.1 ID with rfl | ID
          · omega
          · have:=(List.pairwise_cons.1 hs).1 j ID
            omega
      have ho : ops[i]? = some ops[i]:=by simp [h1]
      have hr : i ∈ Region.ready .any ops listed:=by
        rw [mem_ready]
        refine ⟨h2,_,ho,fun e he hb=>?_⟩
        have cN:=(jy EB ho).2 e (by simpa using he) hb
        have:=Hj _ cN
        -- both defaults agree where the place is there
        have fY : e.on < listed.size:=by
          rcases Nat.lt_or_ge e.on listed.size with h' | h'
          · exact h'
          · exfalso
            have : listed.getD i true = true:=by
              simp [Array.getElem?_eq_none (show listed.size≤i by omega)]
            rw [h2] at this; cases this
        simpa [fY] using this
      rw [h] at hr
      cases hr
  induction fuel with
  | zero =>
    intro listed G E s a w fY hlen fM hP h hr hq
    have hl : left ops listed = []:=List.eq_nil_of_length_eq_zero (by omega)
    have mi : Region.ready .any ops listed = []:=by
      cases UN : Region.ready .any ops listed with
      | nil=>rfl
      | cons i L =>
        exfalso
        have : i ∈ Region.ready .any ops listed:=by rw [UN]; simp
        rw [mem_ready] at this
        obtain ⟨h0,o,ho,_⟩:=this
        have : i ∈ left ops listed:=mem_left.2 ⟨(Array.getElem?_eq_some_iff.1 ho).1,h0⟩
        rw [hl] at this
        cases this
    rw [hl] at h
    exact ⟨mi,hq G E s a w (.refl G) hr h⟩
  | succ fuel ih =>
    intro listed G E s a w fY hlen fM hP h hr hq
    refine ⟨fun mi=>?_,fun i hi=>?_⟩
    · rw [rT listed mi] at h
      exact hq G E s a w (.refl G) hr h
    · obtain ⟨h0,o,ho,bT⟩:=mem_ready.1 hi
      have EC : i < ops.size:=(Array.getElem?_eq_some_iff.1 ho).1
      obtain ⟨L1,L2,q1,q2,q3⟩:=yV fY EC h0
      -- what comes before i is done
      have uh : ∀ (j : Nat) (oj : Oper),ops[j]? = some oj→(∀ e ∈ oj.after.toList,Region.binds .any e = true→listed.getD e.on false = true)→∀ l,((Region.before ops).toList.getD j 0).testBit l = true→listed.getD l false = true:=by
        intro j
        induction j using Nat.strongRecOn with
        | _ j UO =>
          intro oj B5 hj l hl
          obtain ⟨d1,d2⟩:=jy EB B5
          obtain ⟨e,he,hb,h1⟩:=d1 l hl
          have xh:=hj e he hb
          rcases h1 with rfl | h1
          · exact xh
          · have cN:=d2 e he hb
            have UQ : e.on < ops.size:=by
              have:=(Array.getElem?_eq_some_iff.1 B5).1
              omega
            have ED : ops[e.on]? = some ops[e.on]:=by simp [UQ]
            refine UO e.on cN _ ED (fM e.on _ ED ?_) l h1
            have : e.on < listed.size:=by omega
            simpa [this] using xh
      have sy : ∀ x ∈ L1,gu ops ((ops[x]?).getD default) o∧¬ (2≤mk x∧2≤mk i)∧¬ (mk x = 1∧mk i = 3):=by
        intro x hx
        obtain ⟨UR,JT⟩:=q3 x hx
        unfold EX at mh
        rw [List.all_eq_true] at mh
        have h1:=mh i (by simpa using EC)
        rw [List.all_eq_true] at h1
        have h2:=h1 x (by simpa using UR)
        have Qz : ops[x]? = some (ops[x]'(by omega)):=by simp
        rw [Qz,ho] at h2
        simp only [Bool.or_eq_true,Bool.and_eq_true,Bool.not_eq_true'] at h2
        rcases h2 with h2 | ⟨⟨h2,h3⟩,h4⟩
        · exfalso
          have:=uh i o ho (fun e he hb=>bT e (by simpa using he) hb) x h2
          have US : x < listed.size:=by omega
          simp [US] at this JT
          rw [JT] at this; cases this
        · refine ⟨by rw [Qz]; exact h2,fun hc=>?_,fun hc=>?_⟩
          · simp [hc.1,hc.2] at h3
          · simp [hc.1,hc.2] at h4
      have ff : ∀ {G' : Gh} {E' : Env} {s' : AS} {a' : Act} {w' : World},G.le G'→(jr ((L1 ++ L2).map (fA ops mk)) = true→kT F s')→qg P Γ N ops F ((L1 ++ L2).map (fA ops mk)) K E' s'→Rel Γ N G' E' s' a' w'→wpAnyIn (xf rd) 0 P .any ops Q fuel (listed.setIfInBounds i true) a' w':=by
        intro G' E' s' a' w' hle hP' hA Bf
        refine ih (listed.setIfInBounds i true) (by simpa using fY) ?_ ?_ (by rw [q2]; exact hP') ?_ Bf (fun yu iG im BZ yt k1 k2 k3=>hq yu iG im BZ yt (hle.trans k1) k2 k3)
        · rw [q2]
          rw [q1] at hlen
          simp at hlen ⊢
          omega
        · intro j oj B5 hj e he hb
          by_cases GH : j = i
          · subst GH
            rw [ho] at B5; cases B5
            exact getD_set_true (bT e (by simpa using he) hb)
          · rw [getD_set_ne true (Ne.symm GH)] at hj
            exact getD_set_true (fM j oj B5 hj e he hb)
        · rw [q2]; exact hA
      rw [q1] at h hP
      simp only [List.map_append,List.map_cons] at h ff hP
      have nf : fA ops mk i = (o,mk i):=by simp [fA,ho]
      rw [nf] at h hP
      by_cases hf : mk i≤1
      · have lB : ∀ x ∈ L1.map (fA ops mk),gu ops x.1 o:=by
          intro x hx
          obtain ⟨j,hj,rfl⟩:=List.mem_map.1 hx
          exact (sy j hj).1
        obtain ⟨hd,v,hv⟩:=zn hf _ lB hP h hr
        have h1:=ml hf _ lB hv h
        have hX : qg P Γ N ops F ((o,mk i) :: (L1.map (fA ops mk) ++ L2.map (fA ops mk))) K E s:=by
          simp only [qg,if_pos hf,hv]
          exact ⟨hd,h1⟩
        have h2:=LG (fun hn=>hP (by
          rw [jY,pr] at hn
          rw [pr,jY]
          simp only [Bool.or_eq_true] at hn ⊢
          rcases hn with hn | hn | hn
          · exact .inr (.inl hn)
          · exact .inl hn
          · exact .inr (.inr hn))) hX
        exact lA (L:=[]) (K:=fun E s=>(jr (L1.map (fA ops mk) ++ L2.map (fA ops mk)) = true→kT F s)∧qg P Γ N ops F (L1.map (fA ops mk) ++ L2.map (fA ops mk)) K E s) ho h2 hr (fun G' E' s' a' w' k1 k2 k3=>ff k1 k3.1 k3.2 k2)
      · have lB : ∀ x ∈ L1.map (fA ops mk),gu ops x.1 o∧x.2≤1∧(mk i≠2→x.2≠1):=by
          intro x hx
          obtain ⟨j,hj,rfl⟩:=List.mem_map.1 hx
          obtain ⟨p1,p2,p3⟩:=sy j hj
          have IP:=hmk i
          refine ⟨p1,?_,fun h2 h3=>?_⟩
          · show mk j≤1
            omega
          · have h3 : mk j = 1:=h3
            omega
        have h2:=sE hf _ lB h
        exact lA (L:=[]) (K:=fun E s=>((mk i = 2∨jr (L1.map (fA ops mk) ++ L2.map (fA ops mk)) = true)→kT F s)∧qg P Γ N ops F (L1.map (fA ops mk) ++ L2.map (fA ops mk)) K E s) ho h2 hr (fun G' E' s' a' w' k1 k2 k3=>ff k1 (fun hn=>k3.1 (.inr hn)) k3.2 k2)
theorem vM {F : Fz} : ∀ (L : List (Oper × Nat)) {K : Env→AS→Prop} {E : Env} {s : AS},qg P Γ N ops F L K E s→qg P Γ N ops F L (fun E' s'=>K E' s'∧∀ i,i ∉ bP (L.map (·.1))→E' i = E i) E s
  | [],K,E,s,h=>⟨h,fun _ _=>rfl⟩
  | (o,m) :: L,K,E,s,h=>by
    have iH : ∀ i,i ∉ bP (((o,m) :: L).map (·.1))→i ∉ bP (L.map (·.1))∧o.dst≠some i:=by
      intro i hi;simp only [bP,List.map_cons,List.filterMap_cons] at hi;refine ⟨fun hm=>hi ?_,fun e=>hi (by simp [e])⟩;simp only [bP] at hm;split
      · exact hm
      · exact List.mem_cons_of_mem _ hm
    simp only [qg] at h ⊢;split at h
    · rename_i he;rw [if_pos he];refine ⟨h.1,?_⟩;have h:=h.2;split at h
      · refine ux L (fun iG im EE=>⟨EE.1,fun i hi=>?_⟩) (vM L h);obtain ⟨m1,m2⟩:=iH i hi;rw [EE.2 i m1,cq m2]
      · exact h
    · rename_i he;rw [if_neg he];refine dp _ (fun E' s' hE=>⟨hE.1.1,?_⟩) (dL h);refine ux L (fun iG im EE=>⟨EE.1,fun i hi=>?_⟩) (vM L hE.1.2);obtain ⟨m1,m2⟩:=iH i hi;rw [EE.2 i m1,hE.2 i m2]
theorem xP {E : Env} {Q : Exit→Env→AS→Prop} (hm : P.follows .mixedOrders = true) (F : Fz) (mk : Nat→Nat) (hmk : ∀ i,mk i≤3) {id : Nat} (kS : uy ops mk = true) (hP : kT F s)
    (h : qg P Γ N ops F ((List.range ops.size).map (fA ops mk)) (fun E' s'=>Q .normal E' s') E s) : cI P Γ N (.region id ops true) Q E s:=by
  intro G a w hr;refine wpIn_region_any hm ?_;have qt : left ops (Array.replicate ops.size false) = List.range ops.size:=by
    unfold left;rw [List.filter_eq_self];intro i hi;have : i < ops.size:=(by simpa using hi);simp [this]
  have Bf : Rel Γ N G E s a w.drew:=⟨hr.st.drew,hr.size,hr.tmps,hr.defers⟩;refine Dd hmk kS ops.size (Array.replicate ops.size false) (by simp) (by rw [qt]; simp) ?_ (fun _=>hP) (by rw [qt]; exact vM _ h) Bf ?_
  · intro i o ho hl;have : i < ops.size:=(Array.getElem?_eq_some_iff.1 ho).1;simp [this] at hl
  · intro G' E' s' a' w' h1 h2 h3;refine ⟨G',E',s',h1,h2,h3.1,fun i hi=>h3.2 i fun hm=>hi ?_⟩;have : ((List.range ops.size).map (fA ops mk)).map (·.1) = ops.toList:=by
      apply List.ext_getElem?;intro j;simp only [List.getElem?_map];by_cases hj : j < ops.size
      · simp [hj,fA]
      · simp [hj]
    have En : i ∈ bP (((List.range ops.size).map (fA ops mk)).map (·.1)):=hm;rw [this] at En;exact En
end
end Go.AM
namespace Go.AM
open Go Go.RowKit
variable {P : Program} {Γ : Nat→List AV} {s : AS}
section
variable {N : Nat} {ops : Array Oper}
theorem JY (fl ld lx : List Nat) (i : Nat) : gl fl ld lx i≤3:=by
  unfold gl; split
  · omega
  · split
    · omega
    · split <;> omega
def EY (P : Program) (Γ : Nat→List AV) (N : Nat) (ops : Array Oper) (F : Fz) (fl ld lx : List Nat) : Nat→List Oper→(Env→AS→Prop)→Env→AS→Prop
  | _,[],K,E,s=>K E s
  | k,o :: rest,K,E,s =>
    if ld.contains k = true then (∀ d,o.dst = some d→d < N)∧match eR ops o E (eP P F (aN Γ E) o.op) with | some v=>EY P Γ N ops F fl ld lx (k + 1) rest K (bD E o.dst v) s | none=>False
    else if fl.contains k = true then AY P Γ N ops [o] (fun E' s'=>kT F s'∧EY P Γ N ops F fl ld lx (k + 1) rest K E' s') E s
    else if lx.contains k = true then AY P Γ N ops [o] (fun E' s'=>((ld.any fun i=>decide (k < i)) = true→kT F s')∧EY P Γ N ops F fl ld lx (k + 1) rest K E' s') E s
    else (∀ d,o.dst = some d→d < N)∧match eR ops o E (dg P (aN Γ E) o.op) with | some v=>EY P Γ N ops F fl ld lx (k + 1) rest K (bD E o.dst v) s | none=>False
theorem iZ {F : Fz} {fl ld lx : List Nat} : ∀ (L : List Oper) (k : Nat) {K : Env→AS→Prop} {E : Env} {s : AS},(∀ j o,L[j]? = some o→ops[k + j]? = some o)→EY P Γ N ops F fl ld lx k L K E s →
    qg P Γ N ops F ((List.range' k L.length).map (fA ops (gl fl ld lx))) K E s
  | [],k,K,E,s,_,h=>h
  | o :: L,k,K,E,s,hL,h=>by
    have ho : ops[k]? = some o:=(by simpa using hL 0 o (by simp));have QE : ∀ j o',L[j]? = some o'→ops[k + 1 + j]? = some o':=fun j o' hj=>by
      have:=hL (j + 1) o' (by simpa using hj);rwa [show k + 1 + j = k + (j + 1) from by omega]
    have nf : fA ops (gl fl ld lx) k = (o,gl fl ld lx k):=(by simp [fA,ho]);rw [List.length_cons,List.range'_succ,List.map_cons,nf];simp only [EY] at h;split at h
    · rename_i hl;have hm : gl fl ld lx k = 1:=(by unfold gl; rw [if_pos hl]);rw [hm];simp only [qg,if_pos (Nat.le_refl 1)];refine ⟨h.1,?_⟩;have h:=h.2;unfold sD;rw [if_pos rfl];split at h
      · rename_i v hv; first | (simp only [hv]; exact iZ L (k + 1) QE h) | (rw [hv]; exact iZ L (k + 1) QE h) | exact iZ L (k + 1) QE h
      · exact h.elim
    · rename_i hl;split at h
      · rename_i hf;have hm : gl fl ld lx k = 2:=(by unfold gl; rw [if_neg hl,if_pos hf]);rw [hm];simp only [qg];rw [if_neg (by omega)];rw [ay] at h;exact dp _ (fun E' s' hE=>⟨fun _=>hE.1,iZ L (k + 1) QE hE.2⟩) h
      · rename_i hf;split at h
        · rename_i hx;have hm : gl fl ld lx k = 3:=(by unfold gl; rw [if_neg hl,if_neg hf,if_pos hx]);rw [hm];simp only [qg];rw [if_neg (by omega)];rw [ay] at h;refine dp _ (fun E' s' hE=>⟨fun hn=>hE.1 ?_,iZ L (k + 1) QE hE.2⟩) h;rcases hn with hn | hn
          · omega
          · unfold jr at hn;rw [List.any_eq_true] at hn ⊢;obtain ⟨x,KQ,OH⟩:=hn;obtain ⟨i,hi,rfl⟩:=List.mem_map.1 KQ;have hik : k + 1≤i:=by
              rw [List.mem_range'] at hi;obtain ⟨j,_,rfl⟩:=hi;omega
            have GI : gl fl ld lx i = 1:=(by simpa [fA] using OH);have hc : ld.contains i = true:=by
              unfold gl at GI;split at GI
              · assumption
              · split at GI
                · omega
                · split at GI <;> omega
            refine ⟨i,by simpa using hc,by simp; omega⟩
        · rename_i hx;have hm : gl fl ld lx k = 0:=(by unfold gl; rw [if_neg hl,if_neg hf,if_neg hx]);rw [hm];simp only [qg,if_pos (Nat.zero_le 1)];refine ⟨h.1,?_⟩;have h:=h.2;unfold sD;rw [if_neg (by omega)];split at h
          · rename_i v hv; first | (simp only [hv]; exact iZ L (k + 1) QE h) | (rw [hv]; exact iZ L (k + 1) QE h) | exact iZ L (k + 1) QE h
          · exact h.elim
theorem LH : ∃ f : Program→(Nat→List AV)→Nat→Array Oper→Fz→List Nat→List Nat→List Nat→Nat→List Oper→(Env→AS→Prop)→Env→AS→Prop,f = EY:=⟨_,rfl⟩
noncomputable def OI : Program→(Nat→List AV)→Nat→Array Oper→Fz→List Nat→List Nat→List Nat→Nat→List Oper→(Env→AS→Prop)→Env→AS→Prop:=Classical.choose LH
theorem axr : OI = EY:=Classical.choose_spec LH
variable {F : Fz} {fl ld lx : List Nat} {k : Nat} {K : Env→AS→Prop} {E : Env} {o : Oper} {rest : List Oper}
theorem bX : OI P Γ N ops F fl ld lx k [] K E s = K E s:=by rw [axr]; rfl
theorem bG : OI P Γ N ops F fl ld lx k (o :: rest) K E s =
    if ld.contains k = true then (∀ d,o.dst = some d→d < N)∧match eR ops o E (eP P F (aN Γ E) o.op) with | some v=>OI P Γ N ops F fl ld lx (k + 1) rest K (bD E o.dst v) s | none=>False
    else if fl.contains k = true then AY P Γ N ops [o] (fun E' s'=>kT F s'∧OI P Γ N ops F fl ld lx (k + 1) rest K E' s') E s
    else if lx.contains k = true then AY P Γ N ops [o] (fun E' s'=>((ld.any fun i=>decide (k < i)) = true→kT F s')∧OI P Γ N ops F fl ld lx (k + 1) rest K E' s') E s
    else (∀ d,o.dst = some d→d < N)∧match eR ops o E (dg P (aN Γ E) o.op) with | some v=>OI P Γ N ops F fl ld lx (k + 1) rest K (bD E o.dst v) s | none=>False:=by rw [axr]; rfl
theorem bu (o : Nat) : xt [] o = none:=rfl
theorem bn (a : Nat) (cs : List AV) (F : Fz) (o : Nat) : xt ((a,cs) :: F) o = if a = o then some cs else xt F o:=by
  unfold xt;rw [List.find?_cons];by_cases h : a = o
  · subst h; simp
  · rw [if_neg h,show (a == o) = false from by simpa using h]
theorem bh : kT [] s = True:=by simp [kT]
theorem aS (a : Nat) (cs : List AV) (F : Fz) : kT ((a,cs) :: F) s = (s.aJ a = some cs∧kT F s):=by simp [kT]
end
section
variable {N : Nat} {E : Env} {Q : Exit→Env→AS→Prop}
theorem fB (hm : P.follows .mixedOrders = true) (F : Fz) (fl ld lx : List Nat) {id : Nat} {L : List Oper} (kS : uy L.toArray (gl fl ld lx) = true) (hP : kT F s)
    (h : ∀ K : Env→AS→Prop,(∀ E s,Q .normal E s→K E s)→OI P Γ N L.toArray F fl ld lx 0 L K E s) : cI P Γ N (.region id L.toArray true) Q E s:=by
  refine xP hm F (gl fl ld lx) (JY fl ld lx) kS hP ?_;have h1:=h _ fun _ _ h=>h;rw [axr] at h1;have h2:=iZ (ops:=L.toArray) L 0 (fun j o hj=>by simpa using hj) h1;simpa [List.range_eq_range'] using h2
theorem eS (hm : P.follows .mixedOrders = true) (F : Fz) (fl ld lx : List Nat) {id : Nat} {L : List Oper} {y : Code} (kS : uy L.toArray (gl fl ld lx) = true) (hP : kT F s)
    (h : ∀ K : Env→AS→Prop,(∀ E s,cI P Γ N y Q E s→K E s)→OI P Γ N L.toArray F fl ld lx 0 L K E s) : cI P Γ N (.seq (.region id L.toArray true) y) Q E s :=
  kk (fB hm F fl ld lx kS hP fun K hK=>h K hK)
end
end Go.AM
namespace Go.AM
open Go Go.RowKit
variable {rd : Option Nat} {P : Program} {Γ : Nat→List AV} {G : Gh} {s : AS} {w : World}
theorem aU.ext {w' : World} (h : aU Γ G s w) (hb : Below w.heap.size w w') : aU Γ G s w' where
  ro b j u hu:=by
    have:=h.ro b j u hu;rw [hb.cell (World.block_lt_of_cell? w _ this)];exact this
  aJ o cs hc:=by
    obtain ⟨b,vs,h1,h2,h3,h4⟩:=h.aJ o cs hc;have cN:=h.dI o b h1;exact ⟨b,vs,h1,h2,h3,fun j u hu=>⟨by rw [hb.cell (p:=⟨b,j,none⟩) cN]; exact (h4 j u hu).1,by rw [hb.frozen (p:=⟨b,j,none⟩) cN]; exact (h4 j u hu).2.1,(h4 j u hu).2.2⟩⟩
  dI o b Hr:=Nat.lt_of_lt_of_le (h.dI o b Hr) hb.size;inj:=h.inj;own t e he:=by
    obtain ⟨b,st,en,h1,h2,h3,h4,h5,h6⟩:=h.own t e he;refine ⟨b,st,en,h1,h2,h3,fun j hj gh=>?_,h5,Nat.lt_of_lt_of_le h6 hb.size⟩;obtain ⟨⟨u,hu⟩,h7,h8⟩:=h4 j hj gh;exact ⟨⟨u,by rw [hb.cell (p:=⟨b,j,none⟩) h6]; exact hu⟩,by rw [hb.frozen (p:=⟨b,j,none⟩) h6]; exact h7,h8⟩
  dy:=h.dy;cB:=h.cB;dn:=h.dn;cG:=h.cG;below:=h.below.trans (hb.mono h.base);others:=h.others.trans fun k o hk _=>(hb.block k (Array.getElem?_eq_some_iff.1 hk).1).trans hk;base:=Nat.le_trans h.base hb.size;jm:=h.jm;soft b c T lo hi hB hh:=by
    rw [hb.block b (h.xaK hB)] at hh;exact h.soft b c T lo hi hB hh
def View (Γ : Nat→List AV) (s : AS) (a b : AV) : Prop:=∀ G w u,aU Γ G s w→ar G a u→ar (G0 w) b u
def iv (Γ : Nat→List AV) (s : AS) (as bs : List AV) : Prop:=∀ G w us,aU Γ G s w→al G as us→al (G0 w) bs us
theorem iv.nil : iv Γ s [] []:=fun G w us _ h=>by simpa [al] using h
theorem iv.cons {a b : AV} {as bs : List AV} (h : View Γ s a b) (k : iv Γ s as bs) : iv Γ s (a :: as) (b :: bs):=by
  intro G w us hs hv;simp only [al] at hv ⊢;obtain ⟨u,vA,rfl,h1,h2⟩:=hv;exact ⟨u,vA,rfl,h G w u hs h1,k G w vA hs h2⟩
theorem View.val {x : Value} : View Γ s (.v x) (.v x):=fun G w u _ h=>by simpa [ar] using h
theorem iv.flat : ∀ {cs : List AV},(∀ c ∈ cs,∃ x,c = .v x)→iv Γ s cs cs
  | [],_=>.nil
  | c :: cs,h=>by
    obtain ⟨x,rfl⟩:=h c (by simp);exact .cons .val (iv.flat fun c hc=>h c (by simp [hc]))
theorem gg.view {b off : Nat} {vs : List Value} (hs : aU Γ G s w) (h : gg G b off vs) : gg (G0 w) b off vs:=fun j u hj=>hs.ro _ _ _ (h j u hj)
theorem View.sl {sz n : Nat} {cs : List AV} (h : ∀ c ∈ cs,∃ x,c = .v x) : View Γ s (.sl sz n cs .any) (.sl sz n cs .any):=by
  intro G w u hs hv;simp only [ar] at hv ⊢;rcases hv with ⟨b,off,cap,vs,h1,h2,h3,h4,h5,h6⟩ | hv
  · exact .inl ⟨b,off,cap,vs,h1,h2,h3,iv.flat h G w vs hs h4,h5.view hs,trivial⟩
  · exact .inr hv
theorem ah.view {f : FuncId} {args EV : List AV} {x : Value} (h : ah P Γ0 f args s0 (fun r _=>r = .v x)) (hv : iv Γ s EV args) : ah P Γ f EV s (fun r s'=>r = .v x∧s' = s):=by
  intro G w vs hs ha;refine (h (G0 w) w vs (aU.start Γ0 w (UT w)) (hv G w vs hs ha)).mono ?_;rintro e w' ⟨G',r,v,s',rfl,h1,h2,h3,rfl⟩;simp only [ar] at h3;subst h3;have hb:=h2.below;rw [h1.B,h1.w0] at hb;exact ⟨G,.v v,v,s,rfl,.refl G,hs.ext hb,by simp [ar],rfl,rfl⟩
theorem dv {N : Nat} {ops : Array Oper} {Q : Exit→Act→World→Prop} {K : Env→AS→Prop} : ∀ (L : List Oper) (I J : List Nat) {G : Gh} {E : Env} {s : AS} {a : Act} {w : World},I.map (ops[·]?) = L.map some→AX P Γ N ops L K E s→Rel Γ N G E s a w →
    (∀ G' E' s' a' w',G.le G'→Rel Γ N G' E' s' a' w'→K E' s'→wpOpsIn (xf rd) 0 P ops Q J a' w')→wpOpsIn (xf rd) 0 P ops Q (I ++ J) a w
  | [],I,J,G,E,s,a,w,hI,h,hr,hq=>by
    have : I = []:=(by simpa using hI);subst this;exact hq G E s a w (.refl G) hr h
  | o :: L,I,J,G,E,s,a,w,hI,h,hr,hq=>by
    cases I with
    | nil=>simp at hI
    | cons i I =>
      simp only [List.map_cons,List.cons.injEq] at hI;rw [List.cons_append,wpOpsIn_cons];exact lA hI.1 h hr fun G' E' s' a' w' h1 h2 h3=>dv L I J hI.2 h3 h2 fun yu iG im BZ yt k1 k2 k3=>hq yu iG im BZ yt (h1.trans k1) k2 k3
end Go.AM
namespace Go.AM
open Go Go.RowKit
theorem ah.anyS {P : Program} {Γ : Nat→List AV} {f : FuncId} {post : List AV} {sz n : Nat} {cs : List AV} {s : AS} {Q : AV→AS→Prop} (h0 : n = 0→cs = []→ah P Γ f (bL :: post) s Q) (h1 : ah P Γ f (.sl sz n cs .no :: post) s Q) :
    ah P Γ f (.sl sz n cs .any :: post) s Q:=by
  intro G w vs hs hv;simp only [al] at hv;obtain ⟨u,us,rfl,k1,k2⟩:=hv;rcases ar.any k1 with ⟨h3,h5,h4⟩ | h3
  · exact h0 h3 h5 G w _ hs (by simp only [al]; exact ⟨u,us,rfl,h4,k2⟩)
  · exact h1 G w _ hs (by simp only [al]; exact ⟨u,us,rfl,h3,k2⟩)
end Go.AM
