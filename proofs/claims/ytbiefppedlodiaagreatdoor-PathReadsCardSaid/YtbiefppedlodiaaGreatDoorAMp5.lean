/- An abstract machine for the model and the rules of its walk, each proved sound over the model; no condition. -/
import Derived.Test.YtbiefppedlodiaaGreatDoorAMp4
set_option linter.unusedSimpArgs false
set_option linter.unusedVariables false
namespace Go.AM
open Go Go.RowKit
theorem ff1 (a : Bool) : (a = false)∨(a = true):=by cases a <;> simp
theorem ff2 (a b : Bool) : (a = false)∨(a = true∧b = false)∨(a = true∧b = true):=by
  cases a
  · exact .inl rfl
  · rcases ff1 b with h | h
    · exact .inr (.inl ⟨rfl,h⟩)
    · exact .inr (.inr (⟨rfl,h⟩))
theorem ff3 (a b c : Bool) : (a = false)∨(a = true∧b = false)∨(a = true∧b = true∧c = false)∨(a = true∧b = true∧c = true):=by
  cases a
  · exact .inl rfl
  · rcases ff2 b c with h | h | h
    · exact .inr (.inl ⟨rfl,h⟩)
    · exact .inr (.inr (.inl ⟨rfl,h⟩))
    · exact .inr (.inr (.inr (⟨rfl,h⟩)))
theorem ff4 (a b c d : Bool) : (a = false)∨(a = true∧b = false)∨(a = true∧b = true∧c = false)∨(a = true∧b = true∧c = true∧d = false)∨(a = true∧b = true∧c = true∧d = true):=by
  cases a
  · exact .inl rfl
  · rcases ff3 b c d with h | h | h | h
    · exact .inr (.inl ⟨rfl,h⟩)
    · exact .inr (.inr (.inl ⟨rfl,h⟩))
    · exact .inr (.inr (.inr (.inl ⟨rfl,h⟩)))
    · exact .inr (.inr (.inr (.inr (⟨rfl,h⟩))))
theorem ff5 (a b c d e : Bool) : (a = false)∨(a = true∧b = false)∨(a = true∧b = true∧c = false)∨(a = true∧b = true∧c = true∧d = false)∨(a = true∧b = true∧c = true∧d = true∧e = false)∨(a = true∧b = true∧c = true∧d = true∧e = true):=by
  cases a
  · exact .inl rfl
  · rcases ff4 b c d e with h | h | h | h | h
    · exact .inr (.inl ⟨rfl,h⟩)
    · exact .inr (.inr (.inl ⟨rfl,h⟩))
    · exact .inr (.inr (.inr (.inl ⟨rfl,h⟩)))
    · exact .inr (.inr (.inr (.inr (.inl ⟨rfl,h⟩))))
    · exact .inr (.inr (.inr (.inr (.inr (⟨rfl,h⟩)))))
theorem tt1 (a : Bool) : (a = true)∨(a = false):=by cases a <;> simp
theorem tt2 (a b : Bool) : (a = true)∨(a = false∧b = true)∨(a = false∧b = false):=by
  cases a
  · rcases tt1 b with h | h
    · exact .inr (.inl ⟨rfl,h⟩)
    · exact .inr (.inr (⟨rfl,h⟩))
  · exact .inl rfl
theorem tt3 (a b c : Bool) : (a = true)∨(a = false∧b = true)∨(a = false∧b = false∧c = true)∨(a = false∧b = false∧c = false):=by
  cases a
  · rcases tt2 b c with h | h | h
    · exact .inr (.inl ⟨rfl,h⟩)
    · exact .inr (.inr (.inl ⟨rfl,h⟩))
    · exact .inr (.inr (.inr (⟨rfl,h⟩)))
  · exact .inl rfl
def eL.aA (a b : List AV) : Prop:=∀ G v,ar G a v→ar G b v
theorem eL.aA.nil : eL.aA [] []:=fun _ _ h=>h
theorem eL.aA.refl (a : List AV) : eL.aA a a:=fun _ _ h=>h
theorem eL.aA.cons {x y : AV} {xs ys : List AV} (h : x.aA y) (k : eL.aA xs ys) : eL.aA (x :: xs) (y :: ys):=by
  intro G v hv;simp only [ar] at hv ⊢;obtain ⟨u,us,rfl,h1,h2⟩:=hv;exact ⟨u,us,rfl,h G u h1,k G us h2⟩
theorem AV.j9 {xs ys : List AV} (h : eL.aA xs ys) : (AV.agg xs).aA (.agg ys):=by
  intro G v hv;simp only [au] at hv ⊢;obtain ⟨vs,rfl,h1⟩:=hv;exact ⟨vs,rfl,h G vs h1⟩
theorem ah.iU {P : Program} {Γ : Nat→List AV} {f : FuncId} {args Rq : List AV} {s : AS} {Q : AV→AS→Prop} (h : eL.aA args Rq) (k : ah P Γ f Rq s Q) : ah P Γ f args s Q :=
  fun G w vs hs hv=>k G w vs hs (h G vs hv)
end Go.AM
namespace Go.AM
open Go Go.RowKit
variable {P : Program} {Γ : Nat→List AV}
theorem fm.jf {N : Nat} {E : Env} {s : AS} {d o : Nat} {cs : List AV} (hE : E d = .ptr o 0) (ho : s.aq o = some cs) :
    fm Γ N E s (aF E d (.dq cs)) (s.drop o):=by
  intro G a w hr;obtain ⟨b,vs,h1,h2,h3,h4,h5⟩:=hr.st.freeze ho;refine ⟨_,h3,h5,hr.size,fun i=>?_,hr.defers.trans h3.df.symm⟩;simp only [aF];split
  · rename_i e;subst e;have:=hr.tmps i;rw [hE] at this;simp only [au] at this;obtain ⟨b',k1,k2⟩:=this;rw [h1] at k1; cases k1;rw [k2];simp only [au];exact ⟨b,0,vs,rfl,ar.mono h3 _ _ h2,h4⟩
  · exact au.mono h3 _ _ (hr.tmps i)
theorem AS.drop_set {s : AS} {o : Nat} (ho : s.aq o = none) (cs : List AV) : (s.set o cs).drop o = s:=by
  cases s with
  | mk aq own =>
    simp only [AS.set,AS.drop,AS.mk.injEq,and_true];funext i;simp only [aF];split
    · rename_i e; subst e; exact ho.symm
    · rfl
theorem aU {N : Nat} {E : Env} {s : AS} {Q : Exit→Env→AS→Prop} (d : Nat) {id : Nat} {L : List Oper} {y : Code} (hd : d ∈ bU L)
    (h : ∀ K : Env→AS→Prop,(∀ E s o cs,E d = .ptr o 0→s.aq o = none→ck P Γ N y Q (aF E d (.dq cs)) s→K E (s.set o cs))→AY P Γ N L.toArray L K E s) : ck P Γ N (.seq (.region id L.toArray false) y) Q E s:=by
  refine jq (mY ?_);have:=h (fun E' s'=>∃ gB fD,fm Γ N E' s' gB fD∧(∀ i,i ∉ bU L→gB i = E' i)∧az (ck P Γ N y Q) Q .normal gB fD) ?_
  · rw [ay] at this;simpa using this
  · intro E' s' o cs h1 h2 h3;refine ⟨aF E' d (.dq cs),s',?_,?_,h3⟩
    · have:=fm.jf (Γ:=Γ) (N:=N) (E:=E') (s:=s'.set o cs) (d:=d) h1 (AS.aa _ _ _);rwa [AS.drop_set h2] at this
    · intro i hi;exact fu _ _ (fun e=>hi (e ▸ hd))
end Go.AM
namespace Go.AM
open Go Go.RowKit
variable {P : Program} {Γ : Nat→List AV}
abbrev dW (st : aX) : List AV:=[aj st.1 .any,.v (.int .i64 st.2)]
abbrev cI (st : aX) : List AV:=[.v (.string ⟨st.1.toArray⟩),.v (.int .i64 st.2)]
theorem AS.qv (s : AS) (p : Nat) : (s.drop p).le s:=by
  refine ⟨fun o cs hc=>?_,fun t e he=>?_⟩
  · simp only [AS.drop,aF] at hc;split at hc
    · cases hc
    · exact hc
  · simpa [AS.drop] using he
theorem dH.at {s : AS} {p : Nat} {st : aX} (h : s.aq p = some (dW st)) : dH (s.drop p) s p st:=⟨AS.qv s p,by simp [AS.drop],h⟩
theorem iT.at {s : AS} {p : Nat} {st : aX} (h : s.aq p = some (cI st)) : iT (s.drop p) s p st:=⟨AS.qv s p,by simp [AS.drop],h⟩
theorem AS.qw {s s' : AS} {p : Nat} {cs : List AV} (h : (s.drop p).le s') (ho : s'.aq p = some cs) : (s.set p cs).le s':=by
  refine ⟨fun o c hc=>?_,fun t e he=>?_⟩
  · by_cases e : o = p
    · subst e;simp [AS.set] at hc;rw [ho,hc]
    · simp only [AS.set,aF,if_neg e] at hc;exact h.aq o c (by simpa only [AS.drop,aF,if_neg e] using hc)
  · exact h.own t e (by simpa [AS.drop,AS.set] using he)
theorem ah.forget {f : FuncId} {args : List AV} {s : AS} {Q R : AV→AS→Prop} (h : ah P Γ f args s Q) (k : ∀ r s',Q r s'→∃ fD,fD.le s'∧R r fD) : ah P Γ f args s R:=by
  intro G w vs hs hv;refine (h G w vs hs hv).mono ?_;rintro e w' ⟨G',r,v,s',h1,h2,h3,h4,h5⟩;obtain ⟨fD,k1,k2⟩:=k r s' h5;exact ⟨G',r,v,fD,h1,h2,h3.mono k1,h4,k2⟩
theorem dH.call {f : FuncId} {args : List AV} {s : AS} {p : Nat} {st : aX} {A : AV→Prop} (h : ah P Γ f args s (fun r s'=>A r∧dH (s.drop p) s' p st)) : ah P Γ f args s (fun r s'=>A r∧s' = s.set p (dW st)) :=
  h.forget fun r s' ⟨h1,h2⟩=>⟨s.set p (dW st),AS.qw h2.le h2.obj,h1,rfl⟩
theorem iT.call {f : FuncId} {args : List AV} {s : AS} {p : Nat} {st : aX} {A : AV→Prop} (h : ah P Γ f args s (fun r s'=>A r∧iT (s.drop p) s' p st)) : ah P Γ f args s (fun r s'=>A r∧s' = s.set p (cI st)) :=
  h.forget fun r s' ⟨h1,h2⟩=>⟨s.set p (cI st),AS.qw h2.le h2.obj,h1,rfl⟩
theorem AS.JV {s : AS} {p : Nat} (h : s.aq p = none) : s.drop p = s:=by
  cases s with
  | mk aq own =>
    simp only [AS.drop,AS.mk.injEq,and_true];funext i;simp only [aF];split
    · rename_i e; subst e; exact h.symm
    · rfl
theorem dH.open {f : FuncId} {args : List AV} {s : AS} {st : aX} (h : ah P Γ f args s (fun r s'=>∃ p,r = .ptr p 0∧dH s s' p st)) : ah P Γ f args s (fun r s'=>∃ p,s.aq p = none∧r = .ptr p 0∧s' = s.set p (dW st)) :=
  h.forget fun r s' ⟨p,h1,h2⟩=>⟨s.set p (dW st),AS.qw (by rw [AS.JV h2.new]; exact h2.le) h2.obj,p,h2.new,h1,rfl⟩
theorem AS.ae (s : AS) {o p : Nat} (h : p≠o) (cs : List AV) : (s.set o cs).aq p = s.aq p:=by simp [AS.set,aF,h]
theorem AS.fj {s : AS} {o p : Nat} {cs : List AV} (h : (s.set o cs).aq p = none) : p≠o∧s.aq p = none:=by
  by_cases e : p = o
  · subst e; simp [AS.set] at h
  · exact ⟨e,by simpa [AS.set,aF,e] using h⟩
theorem lA {E : Env} {s : AS} {b7 : AV→AS→Prop} {a T t o off : Nat} {cs : List AV} {v : AV} (h1 : E a = .ptr o off) (h2 : s.aq o = some cs) (h3 : P.cellsOf T≠0) (h4 : oE P T (cs.drop off) = some v)
    (h : ∃ r s',(AV.eJ [v,E t]).aA r∧s'.le s∧b7 r s') : cn P [.cell a T,.tmp t] b7 .ret E s:=by
  simp only [cn,bz,bD,dy,h1,h2,if_neg h3,h4];exact h
theorem ch {E : Env} {s : AS} {b7 : AV→AS→Prop} {a T o off : Nat} {cs : List AV} {v : AV} (h1 : E a = .ptr o off) (h2 : s.aq o = some cs) (h3 : P.cellsOf T≠0) (h4 : oE P T (cs.drop off) = some v)
    (h : ∃ r s',v.aA r∧s'.le s∧b7 r s') : cn P [.cell a T] b7 .ret E s:=by
  simp only [cn,bz,bD,dy,h1,h2,if_neg h3,h4];exact h
theorem AS.IE (s : AS) {p o : Nat} (h : p≠o) (a b c : List AV) : ((s.set p a).set o b).set p c = (s.set p c).set o b:=by
  simp only [AS.set,AS.mk.injEq,and_true];funext i;simp only [aF];by_cases h1 : i = p
  · subst h1; simp [h]
  · simp [h1]
end Go.AM
namespace Go.AM
open Go Go.RowKit
theorem lB {a b : Ty} {j0 : List AV} (h : LF (.cons a b) j0) : ∃ x y,j0 = x ++ y∧dT a x∧LF b y:=by simpa only [LF] using h
theorem CO {j0 : List AV} (h : LF .nil j0) : j0 = []:=by simpa only [LF] using h
theorem pF {b : Ty} {j0 : List AV} (h : dT (.struct b) j0) : LF b j0:=by simpa only [dT] using h
theorem LJ {k : IntKind} {j0 : List AV} (h : dT (.int k) j0) : ∃ n,j0 = [.v (.int k n)]∧(Lit.int k n).wf = true:=by simpa only [dT] using h
abbrev Rr : Ty:=.slice 1 (.int .u8)
abbrev Vf : Ty:=.int .i64
end Go.AM
namespace Go.AM
open Go Go.RowKit
variable {rd : Option Nat} {P : Program} {Γ : Nat→List AV} {G : Gh} {s : AS} {w : World}
abbrev Fz:=List (Nat × List AV)
def kx (F : Fz) (s : AS) : Prop:=∀ x ∈ F,s.aq x.1 = some x.2
def vW (F : Fz) (o : Nat) : Option (List AV):=(F.find? (fun x=>x.1 == o)).map (·.2)
theorem G7 {F : Fz} {s : AS} (h : kx F s) {o : Nat} {cs : List AV} (hg : vW F o = some cs) : s.aq o = some cs:=by
  unfold vW at hg;rw [Option.map_eq_some_iff] at hg;obtain ⟨x,h1,rfl⟩:=hg;have h2:=List.mem_of_find?_eq_some h1;have h3:=List.find?_some h1;simp only [beq_iff_eq] at h3;rw [← h3];exact h x h2
def cV (P : Program) (F : Fz) (ρ : Operand→AV) (op : Op) : Option AV :=
  match op with
  | .load T x=>match ρ x with
    | .ptr o off=>match vW F o with
      | some cs=>if P.cellsOf T = 0 then none else oE P T (cs.drop off)
      | none=>none
    | _=>none
  | _=>none
theorem G8 {F : Fz} {ρ ρ' : Operand→AV} {op : Op} (h : ∀ x ∈ op.operands,ρ x = ρ' x) : cV P F ρ op = cV P F ρ' op:=by
  cases op <;> simp only [cV];case load T x=>rw [h x (by simp [Op.operands])]
section
variable {N : Nat} {ops : Array Oper}
def cZ (ops : Array Oper) (o : Oper) (E : Env) (v : Option AV) : Option AV :=
  match o.guard with
  | none=>v
  | some (j,want) =>
    match nK ops j with
    | none=>none
    | some d =>
      match E d with
      | .v (.bool t)=>if t = want then v else some (.v undef)
      | .v (.tuple _)=>some (.v undef)
      | _=>none
def qY (P : Program) (Γ : Nat→List AV) (ops : Array Oper) (F : Fz) (m : Nat) (o : Oper) (E : Env) : Option AV :=
  cZ ops o E (if m = 1 then cV P F (aI Γ E) o.op else cE P (aI Γ E) o.op)
theorem ml {F : Fz} {m : Nat} {o : Oper} {E E' : Env} (h : ∀ d,d ∈ o.looksAt ops→E' d = E d) : qY P Γ ops F m o E' = qY P Γ ops F m o E:=by
  have gk : ∀ x ∈ o.op.operands,aI Γ E' x = aI Γ E x:=fun x hx=>by
    cases x with
    | tmp t=>exact h t (List.mem_append_left _ (List.mem_filterMap.2 ⟨.tmp t,by simpa using hx,rfl⟩))
    | const v=>rfl
    | global g=>rfl
    | func f=>rfl
  unfold qY;rw [G8 gk,nM gk];unfold cZ;split
  · rfl
  · rename_i j want hg;split
    · rfl
    · rename_i d hj;have : E' d = E d:=h d (by
        by_cases hd : d ∈ o.looksAt ops
        · exact hd
        · exact absurd hj (mi hd hg))
      rw [this]
def iV (L : List (Oper × Nat)) : Bool:=L.any fun x=>x.2 == 1
def pf (P : Program) (Γ : Nat→List AV) (N : Nat) (ops : Array Oper) (F : Fz) : List (Oper × Nat)→(Env→AS→Prop)→Env→AS→Prop
  | [],K,E,s=>K E s
  | (o,m) :: rest,K,E,s =>
    if m≤1 then (∀ d,o.dst = some d→d < N)∧match qY P Γ ops F m o E with | some v=>pf P Γ N ops F rest K (bg E o.dst v) s | none=>False
    else AX P Γ N ops [o] (fun E' s'=>((m = 2∨iV rest = true)→kx F s')∧pf P Γ N ops F rest K E' s') E s
theorem th {F : Fz} : ∀ (L : List (Oper × Nat)) {K K' : Env→AS→Prop} {E : Env} {s : AS},(∀ E s,K E s→K' E s)→pf P Γ N ops F L K E s→pf P Γ N ops F L K' E s
  | [],K,K',E,s,hk,h=>hk _ _ h
  | (o,m) :: L,K,K',E,s,hk,h=>by
    simp only [pf] at h ⊢;split at h
    · rename_i he;rw [if_pos he];refine ⟨h.1,?_⟩;have h:=h.2;split at h
      · exact th L hk h
      · exact h
    · rename_i he; rw [if_neg he]; exact cf _ (fun E s h=>⟨h.1,th L hk h.2⟩) h
theorem jg {x : Oper × Nat} {L : List (Oper × Nat)} : iV (x :: L) = ((x.2 == 1) || iV L):=rfl
theorem nQ {L M : List (Oper × Nat)} : iV (L ++ M) = (iV L || iV M):=by simp [iV]
theorem LK {F : Fz} {o : Oper} {m : Nat} {L : List (Oper × Nat)} {E : Env} {K : Env→AS→Prop} (hp : iV ((o,m) :: L) = true→kx F s) (h : pf P Γ N ops F ((o,m) :: L) K E s) :
    AX P Γ N ops [o] (fun E' s'=>(iV L = true→kx F s')∧pf P Γ N ops F L K E' s') E s:=by
  have Rs : iV L = true→kx F s:=fun h=>hp (by rw [jg,h,Bool.or_true]);simp only [pf] at h;split at h
  · rename_i hm;have core : ∀ v,(if m = 1 then cV P F (aI Γ E) o.op else cE P (aI Γ E) o.op) = some v→pf P Γ N ops F L K (bg E o.dst v) s →
        bX P Γ (aI Γ E) s (fun r s'=>(iV L = true→kx F s')∧pf P Γ N ops F L K (bg E o.dst r) s') o.op:=by
      intro v hv hK;by_cases h1 : m = 1
      · rw [if_pos h1] at hv;have hP : kx F s:=hp (by rw [jg]; simp [h1]);cases gk : o.op <;> rw [gk] at hv <;> simp only [cV] at hv <;> try (cases hv; done)
        rename_i T x;cases hx : aI Γ E x <;> rw [hx] at hv <;> simp only at hv <;> try (cases hv; done)
        rename_i ob off;cases hg : vW F ob with
        | none=>rw [hg] at hv; cases hv
        | some cs =>
          rw [hg] at hv;simp only at hv;split at hv
          · cases hv
          · rename_i hc;have ha : cE P (aI Γ E) (.load T x) = none:=(by simp only [cE,hx]);simp only [bX,ha,nP,hx,G7 hP hg,hv];exact ⟨hc,Rs,hK⟩
      · rw [if_neg h1] at hv;simp only [bX,hv];exact ⟨Rs,hK⟩
    simp only [AX];refine ⟨h.1,?_⟩;have h:=h.2;unfold qY cZ at h;cases hg : o.guard with
    | none =>
      simp only [hg] at h;split at h
      · rename_i v hv; exact core v hv h
      · exact h.elim
    | some p =>
      obtain ⟨j,want⟩:=p;simp only [hg] at h;cases hj : nK ops j with
      | none=>simp [hj] at h
      | some d =>
        simp only [hj] at h ⊢;split
        · rename_i t hE;simp only [hE] at h;split
          · rename_i ht;simp only [if_pos ht] at h;split at h
            · rename_i v hv; exact core v hv h
            · exact h.elim
          · rename_i ht;simp only [if_neg ht] at h;exact ⟨Rs,h⟩
        · rename_i c hE;simp only [hE] at h;exact ⟨Rs,h⟩
        · rename_i dp oQ;split at h
          · rename_i v hv;split at hv
            · rename_i t hE;exact absurd hE (dp t)
            · rename_i c hE;exact absurd hE (oQ c)
            · cases hv
          · exact h
  · exact cf _ (fun E' s' hE=>⟨fun hn=>hE.1 (.inr hn),hE.2⟩) h
theorem yw {F : Fz} {y : Oper} {m : Nat} (hm : m≤1) {L2 : List (Oper × Nat)} {K : Env→AS→Prop} : ∀ (L1 : List (Oper × Nat)) {G : Gh} {E : Env} {s : AS} {a : Act} {w : World},(∀ x ∈ L1,dL ops x.1 y)→(iV (L1 ++ (y,m) :: L2) = true→kx F s)→pf P Γ N ops F (L1 ++ (y,m) :: L2) K E s→Rel Γ N G E s a w →
    (∀ d,y.dst = some d→d < N)∧∃ v,qY P Γ ops F m y E = some v
  | [],G,E,s,a,w,_,hp,h,hr=>by
    simp only [List.nil_append,pf,if_pos hm] at h;refine ⟨h.1,?_⟩;have h:=h.2;split at h
    · rename_i v hv; exact ⟨v,hv⟩
    · exact h.elim
  | (x,ex) :: L1,G,E,s,a,w,iS,hp,h,hr=>by
    obtain ⟨G',E',s',a',w',uy,hK,hf⟩:=hJ (LK hp h) hr;obtain ⟨h1,v,h2⟩:=yw hm L1 (fun x hx=>iS x (List.mem_cons_of_mem _ hx)) hK.1 hK.2 uy;refine ⟨h1,v,?_⟩;rw [← h2];refine (ml fun d hd=>hf d fun e=>?_).symm;exact (Oper.apart_spec (iS (x,ex) (by simp))).1 d e hd
theorem lC {F : Fz} {y : Oper} {m : Nat} (hm : m≤1) {L2 : List (Oper × Nat)} {K : Env→AS→Prop} {v : AV} : ∀ (L1 : List (Oper × Nat)) {E : Env} {s : AS},(∀ x ∈ L1,dL ops x.1 y)→qY P Γ ops F m y E = some v→pf P Γ N ops F (L1 ++ (y,m) :: L2) K E s →
    pf P Γ N ops F (L1 ++ L2) K (bg E y.dst v) s
  | [],E,s,_,hv,h=>by
    simp only [List.nil_append,pf,if_pos hm,hv] at h;exact h.2
  | (x,ex) :: L1,E,s,iS,hv,h=>by
    obtain ⟨a1,a2,a3⟩:=Oper.apart_spec (iS (x,ex) (by simp));have lZ : ∀ x ∈ L1,dL ops x.1 y:=fun x hx=>iS x (List.mem_cons_of_mem _ hx);have Lx : ∀ E' : Env,(∀ i,x.dst≠some i→E' i = E i)→qY P Γ ops F m y E' = some v:=fun E' hE=>by
      rw [ml (E:=E) fun d hd=>hE d fun e=>a1 d e hd,hv]
    simp only [List.cons_append,pf] at h ⊢;split at h
    · rename_i he;rw [if_pos he];refine ⟨h.1,?_⟩;have h:=h.2;rw [ml (E:=E) fun d hd=>bW fun e=>a3 d e hd];split at h
      · rename_i u hu;simp only [hu];rw [kW (fun d h1 h2=>a2 d h2 h1)];exact lC hm L1 lZ (Lx _ fun i hi=>bW hi) h
      · exact h.elim
    · rename_i he;rw [if_neg he];refine (pt (fun d hd=>a3 d hd) (fun d hd e=>a2 d e hd)).2 ?_;refine cf _ (fun E' s' hE=>?_) (cl h);refine ⟨fun hn=>hE.1.1 (hn.imp id fun hn=>?_),lC hm L1 lZ (Lx E' hE.2) hE.1.2⟩;rw [nQ] at hn ⊢;rw [jg];simp only [Bool.or_eq_true] at hn ⊢;rcases hn with hn | hn
      · exact .inl hn
      · exact .inr (.inr hn)
theorem qZ {F : Fz} {y : Oper} {m : Nat} (hm : ¬ m≤1) {L2 : List (Oper × Nat)} {K : Env→AS→Prop} : ∀ (L1 : List (Oper × Nat)) {E : Env} {s : AS},(∀ x ∈ L1,dL ops x.1 y∧x.2≤1∧(m≠2→x.2≠1))→pf P Γ N ops F (L1 ++ (y,m) :: L2) K E s →
    AX P Γ N ops [y] (fun E' s'=>((m = 2∨iV (L1 ++ L2) = true)→kx F s')∧pf P Γ N ops F (L1 ++ L2) K E' s') E s
  | [],E,s,_,h=>by simpa only [List.nil_append,pf,if_neg hm] using h
  | (x,ex) :: L1,E,s,iS,h=>by
    obtain ⟨GR,hex,hl⟩:=iS (x,ex) (by simp);simp only at hex hl;obtain ⟨a1,a2,a3⟩:=Oper.apart_spec GR;have lZ : ∀ x ∈ L1,dL ops x.1 y∧x.2≤1∧(m≠2→x.2≠1):=fun x hx=>iS x (List.mem_cons_of_mem _ hx);simp only [List.cons_append,pf,if_pos hex] at h;obtain ⟨h0,h⟩:=h;split at h
    · rename_i v hv;have h1:=qZ hm L1 lZ h;have h2:=(pt (fun d hd=>a1 d hd) (fun d hd=>a2 d hd)).1 h1;refine cf _ (fun E' s' hE=>⟨?_,?_⟩) (cl h2)
      · intro hn;refine hE.1.1 ?_;by_cases h2 : m = 2
        · exact .inl h2
        · refine .inr ?_;rcases hn with hn | hn
          · exact absurd hn h2
          · rw [List.cons_append,jg] at hn;simpa [hl h2] using hn
      · simp only [List.cons_append,pf,if_pos hex];refine ⟨h0,?_⟩;rw [ml (E:=E) fun d hd=>hE.2 d fun e=>a3 d e hd,hv];exact hE.1.2
    · exact h.elim
def fk (fl ld lx : List Nat) (i : Nat) : Nat:=if ld.contains i then 1 else if fl.contains i then 2 else if lx.contains i then 3 else 0
def EO (ops : Array Oper) (D : List Nat) (mk : Nat→Nat) : Bool :=
  (List.range ops.size).all fun j=>(List.range j).all fun i =>
    match ops[i]?,ops[j]? with
    | some x,some y=>(D.getD j 0).testBit i || (x.apart ops y && !(decide (2≤mk i) && decide (2≤mk j)) && !(mk i == 1 && mk j == 3))
    | _,_=>true
def ti (ops : Array Oper) (mk : Nat→Nat) : Bool:=vL ops (Region.before ops).toList && EO ops (Region.before ops).toList mk
def eM (ops : Array Oper) (mk : Nat→Nat) (i : Nat) : Oper × Nat:=((ops[i]?).getD default,mk i)
theorem CP {F : Fz} {mk : Nat→Nat} (OM : ∀ i,mk i≤3) {Q : Exit→Act→World→Prop} {K : Env→AS→Prop} (ie : ti ops mk = true) :
    ∀ (fuel : Nat) (listed : Array Bool) {G : Gh} {E : Env} {s : AS} {a : Act} {w : World},listed.size = ops.size→(left ops listed).length≤fuel →
      (∀ (i : Nat) (o : Oper),ops[i]? = some o→listed.getD i true = true→∀ e ∈ o.after.toList,Region.binds .any e = true→listed.getD e.on false = true) →
      (iV ((left ops listed).map (eM ops mk)) = true→kx F s)→pf P Γ N ops F ((left ops listed).map (eM ops mk)) K E s→Rel Γ N G E s a w →
      (∀ G' E' s' a' w',G.le G'→Rel Γ N G' E' s' a' w'→K E' s'→Q .normal a' w')→wpAnyIn (sO rd) 0 P .any ops Q fuel listed a w:=by
  simp only [ti,Bool.and_eq_true] at ie
  obtain ⟨uz,ly⟩:=ie
  intro fuel
  have qL : ∀ (listed : Array Bool),Region.ready .any ops listed = []→left ops listed = []:=by
    intro listed h
    -- the first that is left could go
    cases hl : left ops listed with
    | nil=>rfl
    | cons i L =>
      exfalso
      have hi : i ∈ left ops listed:=by rw [hl]; simp
      obtain ⟨h1,h2⟩:=mem_left.1 hi
      have xY : ∀ j,j < i→listed.getD j true = true:=by
        intro j hj
        cases Eo : listed.getD j true with
        | true=>rfl
        | false =>
          exfalso
          have CF : j ∈ left ops listed:=mem_left.2 ⟨by omega,Eo⟩
          have hs : (left ops listed).Pairwise (· < ·):=by
            unfold left
            exact List.Pairwise.filter _ List.pairwise_lt_range
          rw [hl] at hs CF
          rcases List.mem_cons.1 CF with rfl | CF
          · omega
          · have:=(List.pairwise_cons.1 hs).1 j CF
            omega
      have ho : ops[i]? = some ops[i]:=by simp [h1]
      have hr : i ∈ Region.ready .any ops listed:=by
        rw [mem_ready]
        refine ⟨h2,_,ho,fun e he hb=>?_⟩
        have bS:=(fG uz ho).2 e (by simpa using he) hb
        have:=xY _ bS
        -- both defaults agree where the place is there
        have eI : e.on < listed.size:=by
          rcases Nat.lt_or_ge e.on listed.size with h' | h'
          · exact h'
          · exfalso
            have : listed.getD i true = true:=by
              simp [Array.getElem?_eq_none (show listed.size≤i by omega)]
            rw [h2] at this; cases this
        simpa [eI] using this
      rw [h] at hr
      cases hr
  induction fuel with
  | zero =>
    intro listed G E s a w eI hlen gy hP h hr hq
    have hl : left ops listed = []:=List.eq_nil_of_length_eq_zero (by omega)
    have gl : Region.ready .any ops listed = []:=by
      cases Pl : Region.ready .any ops listed with
      | nil=>rfl
      | cons i L =>
        exfalso
        have : i ∈ Region.ready .any ops listed:=by rw [Pl]; simp
        rw [mem_ready] at this
        obtain ⟨h0,o,ho,_⟩:=this
        have : i ∈ left ops listed:=mem_left.2 ⟨(Array.getElem?_eq_some_iff.1 ho).1,h0⟩
        rw [hl] at this
        cases this
    rw [hl] at h
    exact ⟨gl,hq G E s a w (.refl G) hr h⟩
  | succ fuel ih =>
    intro listed G E s a w eI hlen gy hP h hr hq
    refine ⟨fun gl=>?_,fun i hi=>?_⟩
    · rw [qL listed gl] at h
      exact hq G E s a w (.refl G) hr h
    · obtain ⟨h0,o,ho,cu⟩:=mem_ready.1 hi
      have uA : i < ops.size:=(Array.getElem?_eq_some_iff.1 ho).1
      obtain ⟨L1,L2,q1,q2,q3⟩:=sU eI uA h0
      -- what comes before i is done
      have nN : ∀ (j : Nat) (oj : Oper),ops[j]? = some oj→(∀ e ∈ oj.after.toList,Region.binds .any e = true→listed.getD e.on false = true)→∀ l,((Region.before ops).toList.getD j 0).testBit l = true→listed.getD l false = true:=by
        intro j
        induction j using Nat.strongRecOn with
        | _ j S1 =>
          intro oj uB hj l hl
          obtain ⟨d1,d2⟩:=fG uz uB
          obtain ⟨e,he,hb,h1⟩:=d1 l hl
          have wQ:=hj e he hb
          rcases h1 with rfl | h1
          · exact wQ
          · have bS:=d2 e he hb
            have S4 : e.on < ops.size:=by
              have:=(Array.getElem?_eq_some_iff.1 uB).1
              omega
            have xZ : ops[e.on]? = some ops[e.on]:=by simp [S4]
            refine S1 e.on bS _ xZ (gy e.on _ xZ ?_) l h1
            have : e.on < listed.size:=by omega
            simpa [this] using wQ
      have qT : ∀ x ∈ L1,dL ops ((ops[x]?).getD default) o∧¬ (2≤mk x∧2≤mk i)∧¬ (mk x = 1∧mk i = 3):=by
        intro x hx
        obtain ⟨VZ,JT⟩:=q3 x hx
        unfold EO at ly
        rw [List.all_eq_true] at ly
        have h1:=ly i (by simpa using uA)
        rw [List.all_eq_true] at h1
        have h2:=h1 x (by simpa using VZ)
        have Rn : ops[x]? = some (ops[x]'(by omega)):=by simp
        rw [Rn,ho] at h2
        simp only [Bool.or_eq_true,Bool.and_eq_true,Bool.not_eq_true'] at h2
        rcases h2 with h2 | ⟨⟨h2,h3⟩,h4⟩
        · exfalso
          have:=nN i o ho (fun e he hb=>cu e (by simpa using he) hb) x h2
          have S5 : x < listed.size:=by omega
          simp [S5] at this JT
          rw [JT] at this; cases this
        · refine ⟨by rw [Rn]; exact h2,fun hc=>?_,fun hc=>?_⟩
          · simp [hc.1,hc.2] at h3
          · simp [hc.1,hc.2] at h4
      have cg : ∀ {G' : Gh} {E' : Env} {s' : AS} {a' : Act} {w' : World},G.le G'→(iV ((L1 ++ L2).map (eM ops mk)) = true→kx F s')→pf P Γ N ops F ((L1 ++ L2).map (eM ops mk)) K E' s'→Rel Γ N G' E' s' a' w'→wpAnyIn (sO rd) 0 P .any ops Q fuel (listed.setIfInBounds i true) a' w':=by
        intro G' E' s' a' w' hle hP' hA uy
        refine ih (listed.setIfInBounds i true) (by simpa using eI) ?_ ?_ (by rw [q2]; exact hP') ?_ uy (fun sA gB fD xV ux k1 k2 k3=>hq sA gB fD xV ux (hle.trans k1) k2 k3)
        · rw [q2]
          rw [q1] at hlen
          simp at hlen ⊢
          omega
        · intro j oj uB hj e he hb
          by_cases Ev : j = i
          · subst Ev
            rw [ho] at uB; cases uB
            exact getD_set_true (cu e (by simpa using he) hb)
          · rw [getD_set_ne true (Ne.symm Ev)] at hj
            exact getD_set_true (gy j oj uB hj e he hb)
        · rw [q2]; exact hA
      rw [q1] at h hP
      simp only [List.map_append,List.map_cons] at h cg hP
      have gk : eM ops mk i = (o,mk i):=by simp [eM,ho]
      rw [gk] at h hP
      by_cases hf : mk i≤1
      · have iS : ∀ x ∈ L1.map (eM ops mk),dL ops x.1 o:=by
          intro x hx
          obtain ⟨j,hj,rfl⟩:=List.mem_map.1 hx
          exact (qT j hj).1
        obtain ⟨hd,v,hv⟩:=yw hf _ iS hP h hr
        have h1:=lC hf _ iS hv h
        have hX : pf P Γ N ops F ((o,mk i) :: (L1.map (eM ops mk) ++ L2.map (eM ops mk))) K E s:=by
          simp only [pf,if_pos hf,hv]
          exact ⟨hd,h1⟩
        have h2:=LK (fun hn=>hP (by
          rw [jg,nQ] at hn
          rw [nQ,jg]
          simp only [Bool.or_eq_true] at hn ⊢
          rcases hn with hn | hn | hn
          · exact .inr (.inl hn)
          · exact .inl hn
          · exact .inr (.inr hn))) hX
        exact fW (L:=[]) (K:=fun E s=>(iV (L1.map (eM ops mk) ++ L2.map (eM ops mk)) = true→kx F s)∧pf P Γ N ops F (L1.map (eM ops mk) ++ L2.map (eM ops mk)) K E s) ho h2 hr (fun G' E' s' a' w' k1 k2 k3=>cg k1 k3.1 k3.2 k2)
      · have iS : ∀ x ∈ L1.map (eM ops mk),dL ops x.1 o∧x.2≤1∧(mk i≠2→x.2≠1):=by
          intro x hx
          obtain ⟨j,hj,rfl⟩:=List.mem_map.1 hx
          obtain ⟨p1,p2,p3⟩:=qT j hj
          have Gs:=OM i
          refine ⟨p1,?_,fun h2 h3=>?_⟩
          · show mk j≤1
            omega
          · have h3 : mk j = 1:=h3
            omega
        have h2:=qZ hf _ iS h
        exact fW (L:=[]) (K:=fun E s=>((mk i = 2∨iV (L1.map (eM ops mk) ++ L2.map (eM ops mk)) = true)→kx F s)∧pf P Γ N ops F (L1.map (eM ops mk) ++ L2.map (eM ops mk)) K E s) ho h2 hr (fun G' E' s' a' w' k1 k2 k3=>cg k1 (fun hn=>k3.1 (.inr hn)) k3.2 k2)
theorem uI {F : Fz} : ∀ (L : List (Oper × Nat)) {K : Env→AS→Prop} {E : Env} {s : AS},pf P Γ N ops F L K E s→pf P Γ N ops F L (fun E' s'=>K E' s'∧∀ i,i ∉ bU (L.map (·.1))→E' i = E i) E s
  | [],K,E,s,h=>⟨h,fun _ _=>rfl⟩
  | (o,m) :: L,K,E,s,h=>by
    have px : ∀ i,i ∉ bU (((o,m) :: L).map (·.1))→i ∉ bU (L.map (·.1))∧o.dst≠some i:=by
      intro i hi;simp only [bU,List.map_cons,List.filterMap_cons] at hi;refine ⟨fun hm=>hi ?_,fun e=>hi (by simp [e])⟩;simp only [bU] at hm;split
      · exact hm
      · exact List.mem_cons_of_mem _ hm
    simp only [pf] at h ⊢;split at h
    · rename_i he;rw [if_pos he];refine ⟨h.1,?_⟩;have h:=h.2;split at h
      · refine th L (fun gB fD x5=>⟨x5.1,fun i hi=>?_⟩) (uI L h);obtain ⟨m1,m2⟩:=px i hi;rw [x5.2 i m1,bW m2]
      · exact h
    · rename_i he;rw [if_neg he];refine cf _ (fun E' s' hE=>⟨hE.1.1,?_⟩) (cl h);refine th L (fun gB fD x5=>⟨x5.1,fun i hi=>?_⟩) (uI L hE.1.2);obtain ⟨m1,m2⟩:=px i hi;rw [x5.2 i m1,hE.2 i m2]
theorem wT {E : Env} {Q : Exit→Env→AS→Prop} (hm : P.follows .mixedOrders = true) (F : Fz) (mk : Nat→Nat) (OM : ∀ i,mk i≤3) {id : Nat} (ie : ti ops mk = true) (hP : kx F s)
    (h : pf P Γ N ops F ((List.range ops.size).map (eM ops mk)) (fun E' s'=>Q .normal E' s') E s) : ck P Γ N (.region id ops true) Q E s:=by
  intro G a w hr;refine wpIn_region_any hm ?_;have vM : left ops (Array.replicate ops.size false) = List.range ops.size:=by
    unfold left;rw [List.filter_eq_self];intro i hi;have : i < ops.size:=(by simpa using hi);simp [this]
  have uy : Rel Γ N G E s a w.drew:=⟨hr.st.drew,hr.size,hr.tmps,hr.defers⟩;refine CP OM ie ops.size (Array.replicate ops.size false) (by simp) (by rw [vM]; simp) ?_ (fun _=>hP) (by rw [vM]; exact uI _ h) uy ?_
  · intro i o ho hl;have : i < ops.size:=(Array.getElem?_eq_some_iff.1 ho).1;simp [this] at hl
  · intro G' E' s' a' w' h1 h2 h3;refine ⟨G',E',s',h1,h2,h3.1,fun i hi=>h3.2 i fun hm=>hi ?_⟩;have : ((List.range ops.size).map (eM ops mk)).map (·.1) = ops.toList:=by
      apply List.ext_getElem?;intro j;simp only [List.getElem?_map];by_cases hj : j < ops.size
      · simp [hj,eM]
      · simp [hj]
    have OK : i ∈ bU (((List.range ops.size).map (eM ops mk)).map (·.1)):=hm;rw [this] at OK;exact OK
end
end Go.AM
namespace Go.AM
open Go Go.RowKit
variable {P : Program} {Γ : Nat→List AV} {s : AS}
section
variable {N : Nat} {ops : Array Oper}
theorem JW (fl ld lx : List Nat) (i : Nat) : fk fl ld lx i≤3:=by
  unfold fk; split
  · omega
  · split
    · omega
    · split <;> omega
def EP (P : Program) (Γ : Nat→List AV) (N : Nat) (ops : Array Oper) (F : Fz) (fl ld lx : List Nat) : Nat→List Oper→(Env→AS→Prop)→Env→AS→Prop
  | _,[],K,E,s=>K E s
  | k,o :: rest,K,E,s =>
    if ld.contains k = true then (∀ d,o.dst = some d→d < N)∧match cZ ops o E (cV P F (aI Γ E) o.op) with | some v=>EP P Γ N ops F fl ld lx (k + 1) rest K (bg E o.dst v) s | none=>False
    else if fl.contains k = true then AY P Γ N ops [o] (fun E' s'=>kx F s'∧EP P Γ N ops F fl ld lx (k + 1) rest K E' s') E s
    else if lx.contains k = true then AY P Γ N ops [o] (fun E' s'=>((ld.any fun i=>decide (k < i)) = true→kx F s')∧EP P Γ N ops F fl ld lx (k + 1) rest K E' s') E s
    else (∀ d,o.dst = some d→d < N)∧match cZ ops o E (cE P (aI Γ E) o.op) with | some v=>EP P Γ N ops F fl ld lx (k + 1) rest K (bg E o.dst v) s | none=>False
theorem iw {F : Fz} {fl ld lx : List Nat} : ∀ (L : List Oper) (k : Nat) {K : Env→AS→Prop} {E : Env} {s : AS},(∀ j o,L[j]? = some o→ops[k + j]? = some o)→EP P Γ N ops F fl ld lx k L K E s →
    pf P Γ N ops F ((List.range' k L.length).map (eM ops (fk fl ld lx))) K E s
  | [],k,K,E,s,_,h=>h
  | o :: L,k,K,E,s,hL,h=>by
    have ho : ops[k]? = some o:=(by simpa using hL 0 o (by simp));have Rt : ∀ j o',L[j]? = some o'→ops[k + 1 + j]? = some o':=fun j o' hj=>by
      have:=hL (j + 1) o' (by simpa using hj);rwa [show k + 1 + j = k + (j + 1) from by omega]
    have gk : eM ops (fk fl ld lx) k = (o,fk fl ld lx k):=(by simp [eM,ho]);rw [List.length_cons,List.range'_succ,List.map_cons,gk];simp only [EP] at h;split at h
    · rename_i hl;have hm : fk fl ld lx k = 1:=(by unfold fk; rw [if_pos hl]);rw [hm];simp only [pf,if_pos (Nat.le_refl 1)];refine ⟨h.1,?_⟩;have h:=h.2;unfold qY;rw [if_pos rfl];split at h
      · rename_i v hv; first | (simp only [hv]; exact iw L (k + 1) Rt h) | (rw [hv]; exact iw L (k + 1) Rt h) | exact iw L (k + 1) Rt h
      · exact h.elim
    · rename_i hl;split at h
      · rename_i hf;have hm : fk fl ld lx k = 2:=(by unfold fk; rw [if_neg hl,if_pos hf]);rw [hm];simp only [pf];rw [if_neg (by omega)];rw [ay] at h;exact cf _ (fun E' s' hE=>⟨fun _=>hE.1,iw L (k + 1) Rt hE.2⟩) h
      · rename_i hf;split at h
        · rename_i hx;have hm : fk fl ld lx k = 3:=(by unfold fk; rw [if_neg hl,if_neg hf,if_pos hx]);rw [hm];simp only [pf];rw [if_neg (by omega)];rw [ay] at h;refine cf _ (fun E' s' hE=>⟨fun hn=>hE.1 ?_,iw L (k + 1) Rt hE.2⟩) h;rcases hn with hn | hn
          · omega
          · unfold iV at hn;rw [List.any_eq_true] at hn ⊢;obtain ⟨x,hx1,Vg⟩:=hn;obtain ⟨i,hi,rfl⟩:=List.mem_map.1 hx1;have hik : k + 1≤i:=by
              rw [List.mem_range'] at hi;obtain ⟨j,_,rfl⟩:=hi;omega
            have hmi : fk fl ld lx i = 1:=(by simpa [eM] using Vg);have hc : ld.contains i = true:=by
              unfold fk at hmi;split at hmi
              · assumption
              · split at hmi
                · omega
                · split at hmi <;> omega
            refine ⟨i,by simpa using hc,by simp; omega⟩
        · rename_i hx;have hm : fk fl ld lx k = 0:=(by unfold fk; rw [if_neg hl,if_neg hf,if_neg hx]);rw [hm];simp only [pf,if_pos (Nat.zero_le 1)];refine ⟨h.1,?_⟩;have h:=h.2;unfold qY;rw [if_neg (by omega)];split at h
          · rename_i v hv; first | (simp only [hv]; exact iw L (k + 1) Rt h) | (rw [hv]; exact iw L (k + 1) Rt h) | exact iw L (k + 1) Rt h
          · exact h.elim
theorem LM : ∃ f : Program→(Nat→List AV)→Nat→Array Oper→Fz→List Nat→List Nat→List Nat→Nat→List Oper→(Env→AS→Prop)→Env→AS→Prop,f = EP:=⟨_,rfl⟩
noncomputable def Pt : Program→(Nat→List AV)→Nat→Array Oper→Fz→List Nat→List Nat→List Nat→Nat→List Oper→(Env→AS→Prop)→Env→AS→Prop:=Classical.choose LM
theorem axr : Pt = EP:=Classical.choose_spec LM
variable {F : Fz} {fl ld lx : List Nat} {k : Nat} {K : Env→AS→Prop} {E : Env} {o : Oper} {rest : List Oper}
theorem bd : Pt P Γ N ops F fl ld lx k [] K E s = K E s:=by rw [axr]; rfl
theorem aS : Pt P Γ N ops F fl ld lx k (o :: rest) K E s =
    if ld.contains k = true then (∀ d,o.dst = some d→d < N)∧match cZ ops o E (cV P F (aI Γ E) o.op) with | some v=>Pt P Γ N ops F fl ld lx (k + 1) rest K (bg E o.dst v) s | none=>False
    else if fl.contains k = true then AY P Γ N ops [o] (fun E' s'=>kx F s'∧Pt P Γ N ops F fl ld lx (k + 1) rest K E' s') E s
    else if lx.contains k = true then AY P Γ N ops [o] (fun E' s'=>((ld.any fun i=>decide (k < i)) = true→kx F s')∧Pt P Γ N ops F fl ld lx (k + 1) rest K E' s') E s
    else (∀ d,o.dst = some d→d < N)∧match cZ ops o E (cE P (aI Γ E) o.op) with | some v=>Pt P Γ N ops F fl ld lx (k + 1) rest K (bg E o.dst v) s | none=>False:=by rw [axr]; rfl
theorem aO (o : Nat) : vW [] o = none:=rfl
theorem aL (a : Nat) (cs : List AV) (F : Fz) (o : Nat) : vW ((a,cs) :: F) o = if a = o then some cs else vW F o:=by
  unfold vW;rw [List.find?_cons];by_cases h : a = o
  · subst h; simp
  · rw [if_neg h,show (a == o) = false from by simpa using h]
theorem aG : kx [] s = True:=by simp [kx]
theorem aD (a : Nat) (cs : List AV) (F : Fz) : kx ((a,cs) :: F) s = (s.aq a = some cs∧kx F s):=by simp [kx]
end
section
variable {N : Nat} {E : Env} {Q : Exit→Env→AS→Prop}
theorem cw (hm : P.follows .mixedOrders = true) (F : Fz) (fl ld lx : List Nat) {id : Nat} {L : List Oper} (ie : ti L.toArray (fk fl ld lx) = true) (hP : kx F s)
    (h : ∀ K : Env→AS→Prop,(∀ E s,Q .normal E s→K E s)→Pt P Γ N L.toArray F fl ld lx 0 L K E s) : ck P Γ N (.region id L.toArray true) Q E s:=by
  refine wT hm F (fk fl ld lx) (JW fl ld lx) ie hP ?_;have h1:=h _ fun _ _ h=>h;rw [axr] at h1;have h2:=iw (ops:=L.toArray) L 0 (fun j o hj=>by simpa using hj) h1;simpa [List.range_eq_range'] using h2
theorem ef (hm : P.follows .mixedOrders = true) (F : Fz) (fl ld lx : List Nat) {id : Nat} {L : List Oper} {y : Code} (ie : ti L.toArray (fk fl ld lx) = true) (hP : kx F s)
    (h : ∀ K : Env→AS→Prop,(∀ E s,ck P Γ N y Q E s→K E s)→Pt P Γ N L.toArray F fl ld lx 0 L K E s) : ck P Γ N (.seq (.region id L.toArray true) y) Q E s :=
  jq (cw hm F fl ld lx ie hP fun K hK=>h K hK)
end
end Go.AM
namespace Go.AM
open Go Go.RowKit
variable {rd : Option Nat} {P : Program} {Γ : Nat→List AV} {G : Gh} {s : AS} {w : World}
theorem aN.ext {w' : World} (h : aN Γ G s w) (hb : Below w.heap.size w w') : aN Γ G s w' where
  ro b j u hu:=by
    have:=h.ro b j u hu;rw [hb.cell (World.block_lt_of_cell? w _ this)];exact this
  aq o cs hc:=by
    obtain ⟨b,vs,h1,h2,h3,h4⟩:=h.aq o cs hc;have bS:=h.cX o b h1;exact ⟨b,vs,h1,h2,h3,fun j u hu=>⟨by rw [hb.cell (p:=⟨b,j,none⟩) bS]; exact (h4 j u hu).1,by rw [hb.frozen (p:=⟨b,j,none⟩) bS]; exact (h4 j u hu).2.1,(h4 j u hu).2.2⟩⟩
  cX o b Pu:=Nat.lt_of_lt_of_le (h.cX o b Pu) hb.size;inj:=h.inj;own t e he:=by
    obtain ⟨b,st,en,h1,h2,h3,h4,h5,h6⟩:=h.own t e he;refine ⟨b,st,en,h1,h2,h3,fun j hj gQ=>?_,h5,Nat.lt_of_lt_of_le h6 hb.size⟩;obtain ⟨⟨u,hu⟩,h7,h8⟩:=h4 j hj gQ;exact ⟨⟨u,by rw [hb.cell (p:=⟨b,j,none⟩) h6]; exact hu⟩,by rw [hb.frozen (p:=⟨b,j,none⟩) h6]; exact h7,h8⟩
  cN:=h.cN;bR:=h.bR;cD:=h.cD;cb:=h.cb;below:=h.below.trans (hb.mono h.base);others:=h.others.trans fun k o hk _=>(hb.block k (Array.getElem?_eq_some_iff.1 hk).1).trans hk;base:=Nat.le_trans h.base hb.size;ia:=h.ia;soft b c T lo hi hB hh:=by
    rw [hb.block b (h.xci hB)] at hh;exact h.soft b c T lo hi hB hh
def View (Γ : Nat→List AV) (s : AS) (a b : AV) : Prop:=∀ G w u,aN Γ G s w→au G a u→au (G0 w) b u
def xeN (Γ : Nat→List AV) (s : AS) (as bs : List AV) : Prop:=∀ G w us,aN Γ G s w→ar G as us→ar (G0 w) bs us
theorem aN.cut {o : Nat} {ds r : List AV} (h : aN Γ G (s.set o (ds ++ r)) w) : aN Γ G (s.set o ds) w where
  ro:=h.ro
  aq o' cs hc:=by
    by_cases e : o' = o
    · subst e;simp [AS.set] at hc;subst hc;obtain ⟨b,vs,h1,h2,h3,h4⟩:=h.aq o' (ds ++ r) (by simp [AS.set]);refine ⟨b,vs.take ds.length,h1,?_,h3,fun j u hj=>h4 j u ?_⟩
      · have:=h2.take ds.length;rwa [List.take_left] at this
      · rw [List.getElem?_take] at hj;split at hj
        · exact hj
        · cases hj
    · exact h.aq o' cs (by simpa [AS.set,aF,e] using hc)
  cX:=h.cX;inj:=h.inj;own:=h.own;cN:=h.cN;bR:=h.bR;cD:=h.cD;cb:=h.cb;below:=h.below;others:=h.others;base:=h.base;ia:=h.ia;soft:=h.soft
theorem uJ {y : AV} {u v : Value} {m : Nat} {ds : List AV} {T xT e : TypeId} {z : List AV} (hT : P.underlying T = some (.slice e)) (hx : kH P (some xT) = true) (he : pq P e z)
    (eQ : iO (P.cellsOf e) s y = some (m,ds)) (hm : m≠0) (h1 : m * P.bytesOf e≤2 ^ 46) (h2 : m≤2 ^ 46) (pd : au G (.sl (P.cellsOf e) 0 [] .new) u) (sM : au G y v) (hs : aN Γ G s w) (ty : TypeId) :
    ∃ G' z w' o cap,(Builtin.append_ #[T,xT] ty #[u,v]).run P w = .ok z w'∧G.le G'∧s.aq o = none∧m≤cap∧aN Γ G' (s.set o ds) w'∧au G' (.gw o 0 (P.cellsOf e) m cap) z:=by
  obtain ⟨us,hv,hlen,ja,fB⟩:=rH (P:=P) eQ sM hs;simp only [au] at pd;rcases pd with ⟨b,off,cap,vs,rfl,hl,Em,Gn,qm,rF⟩ | ⟨_,_,a,cap,rfl,xP⟩ | ⟨_,_,hn,_⟩
  · simp only [eA] at rF;obtain ⟨rfl,_⟩:=rF;obtain ⟨kJ,rest,xt,Ao,ll⟩:=iq (P:=P) (w:=w) ja hT hx he (base:=some ⟨b,off,none⟩) (n:=0) (cap:=0) (olds:=[]) (news:=us)
      (fun w' _=>run_firstCells_some w' _ _ _ _ _ [] (by simp) (by simp)) fB (by omega) (by simpa using h1) (by simpa using h2) ty
    simp only [Nat.zero_add,List.nil_append] at xt Ao ll;obtain ⟨o,k1,k2,k3,k4⟩:=hs.drew.newObj (cs:=ds ++ rest.map .v) (vs:=us ++ rest) (hv.append (ar.Ef rest)) e;refine ⟨_,_,_,o,kJ,ll,k2,k1,xt,k3.cut,?_⟩;simp only [au];exact ⟨_,k4,rfl,xt⟩
  · rcases xP with h | h | ⟨h,_⟩ <;> cases h
  · cases hn
theorem dZ {N : Nat} {ops : Array Oper} {Q : Exit→Act→World→Prop} {K : Env→AS→Prop} : ∀ (L : List Oper) (I J : List Nat) {G : Gh} {E : Env} {s : AS} {a : Act} {w : World},I.map (ops[·]?) = L.map some→AX P Γ N ops L K E s→Rel Γ N G E s a w →
    (∀ G' E' s' a' w',G.le G'→Rel Γ N G' E' s' a' w'→K E' s'→wpOpsIn (sO rd) 0 P ops Q J a' w')→wpOpsIn (sO rd) 0 P ops Q (I ++ J) a w
  | [],I,J,G,E,s,a,w,hI,h,hr,hq=>by
    have : I = []:=(by simpa using hI);subst this;exact hq G E s a w (.refl G) hr h
  | o :: L,I,J,G,E,s,a,w,hI,h,hr,hq=>by
    cases I with
    | nil=>simp at hI
    | cons i I =>
      simp only [List.map_cons,List.cons.injEq] at hI;rw [List.cons_append,wpOpsIn_cons];exact fW hI.1 h hr fun G' E' s' a' w' h1 h2 h3=>dZ L I J hI.2 h3 h2 fun sA gB fD xV ux k1 k2 k3=>hq sA gB fD xV ux (h1.trans k1) k2 k3
theorem Au {N : Nat} {E : Env} {Q : Exit→Env→AS→Prop} {id : Nat} {o1 o2 o3 o4 : Oper} {x y : Operand} {T xT e : TypeId} {z : List AV} {d : Tmp} {code : Code}
    (ho : o3.op = .call { callee:=.builtin .append,args:=#[x,y],argTypes:=#[T,xT] }) (hg : o3.guard = none) (hd : o3.dst = some d) (hN : d < N)
    (hT : P.underlying T = some (.slice e)) (hx : kH P (some xT) = true) (hz : ba P e = some z) (hc : P.cellsOf e≠0) (sy : z.length = P.cellsOf e)
    (h : AY P Γ N #[o1,o2,o3,o4] [o1,o2] (fun E1 s1=>aI Γ E1 x = .sl (P.cellsOf e) 0 [] .new∧∃ m ds,iO (P.cellsOf e) s1 (aI Γ E1 y) = some (m,ds)∧m≠0∧m * P.bytesOf e≤2 ^ 46∧m≤2 ^ 46 ∧
      ∀ ob cap,s1.aq ob = none→m≤cap→AY P Γ N #[o1,o2,o3,o4] [o4] (fun E' s'=>ck P Γ N code Q E' s') (aF E1 d (.gw ob 0 (P.cellsOf e) m cap)) (s1.set ob ds)) E s) :
    ck P Γ N (.seq (.region id #[o1,o2,o3,o4] false) code) Q E s:=by
  rw [ay] at h;refine jq ?_;intro G a w hr;refine wpIn_region ?_;have Tb : List.range (#[o1,o2,o3,o4] : Array Oper).size = [0,1] ++ [2,3]:=(by simp; decide);rw [Tb];refine dZ [o1,o2] [0,1] [2,3] (by simp) (dK _ h) hr ?_;rintro G1 E1 s1 a1 w1 ig ra ⟨⟨hxe,m,ds,eQ,hm,BG,Lt,hk⟩,CQ⟩;rw [wpOpsIn_cons];have gk : (#[o1,o2,o3,o4] : Array Oper)[2]? = some o3:=(by simp);simp only [wpOpIn,gk];rw [if_pos (ee hg)];have pd:=ra.eval x;rw [hxe] at pd;obtain ⟨G2,z2,w2,ob,cap,q1,q2,q3,q4,q5,q6⟩:=uJ hT hx ⟨hz,hc,sy⟩ eQ hm BG Lt pd (ra.eval y) ra.st o3.type;refine Oper.mX (K:=fun r s'=>r = .gw ob 0 (P.cellsOf e) m cap∧s' = s1.set ob ds) ra (fun d' LN=>by rw [hd] at LN; cases LN; exact hN) ?_ ?_
  · rw [dc ho];simp only [builtin];exact dF ⟨G2,z2,w2,_,_,by simpa using q1,q2,q5,q6,rfl,rfl⟩
  · rintro G3 r s3 a3 w3 Ru rb ⟨rfl,rfl⟩;rw [hd] at rb;have hl:=dK _ (hk ob cap q3 q4);refine lr [o4] [3] (by simp) hl rb ?_;rintro G4 E4 s4 a4 w4 V0 D9 ⟨Tc,LO⟩;refine ⟨G4,E4,s4,ig.trans (Ru.trans V0),D9,Tc,?_⟩;intro i hi;have mem : ∀ L : List Oper,i ∈ bU L↔∃ o ∈ L,o.dst = some i:=(fun L=>by simp [bU,List.mem_filterMap]);have bc : ¬ ∃ o ∈ [o1,o2,o3,o4],o.dst = some i:=fun hm=>hi ((mem [o1,o2,o3,o4]).2 hm);have h3 : i ∉ bU [o4]:=fun hm=>bc (by obtain ⟨o,k1,k2⟩:=(mem _).1 hm; exact ⟨o,by simp at k1; simp [k1],k2⟩);have h1 : i ∉ bU [o1,o2]:=fun hm=>bc (by obtain ⟨o,k1,k2⟩:=(mem _).1 hm; exact ⟨o,by simp at k1; rcases k1 with k1 | k1 <;> simp [k1],k2⟩);have h2 : i≠d:=fun e=>bc ⟨o3,by simp,by rw [e]; exact hd⟩;rw [LO i h3];simp only [bg,aF,if_neg h2];exact CQ i h1
end Go.AM
namespace Go.AM
open Go Go.RowKit
theorem ah.anyS {P : Program} {Γ : Nat→List AV} {f : FuncId} {post : List AV} {sz n : Nat} {cs : List AV} {s : AS} {Q : AV→AS→Prop} (h0 : n = 0→cs = []→ah P Γ f (bZ :: post) s Q) (h1 : ah P Γ f (.sl sz n cs .no :: post) s Q) :
    ah P Γ f (.sl sz n cs .any :: post) s Q:=by
  intro G w vs hs hv;simp only [ar] at hv;obtain ⟨u,us,rfl,k1,k2⟩:=hv;rcases au.any k1 with ⟨h3,h5,h4⟩ | h3
  · exact h0 h3 h5 G w _ hs (by simp only [ar]; exact ⟨u,us,rfl,h4,k2⟩)
  · exact h1 G w _ hs (by simp only [ar]; exact ⟨u,us,rfl,h3,k2⟩)
end Go.AM
