/- An abstract machine for the model and the rules of its walk, each proved sound over the model; no condition. -/
import Derived.Test.YtbiefppedlodiaaGreatDoorAMp4
set_option linter.unusedSimpArgs false
set_option linter.unusedVariables false
namespace Go.AM
open Go Go.RowKit
theorem ff1 (a : Bool) : (a = false)∨(a = true):=by cases a <;> simp
theorem ZW (a b : Bool) : (a = false)∨(a = true∧b = false)∨(a = true∧b = true):=by
  cases a
  · exact .inl rfl
  · rcases ff1 b with h | h
    · exact .inr (.inl ⟨rfl,h⟩)
    · exact .inr (.inr (⟨rfl,h⟩))
theorem ZX (a b c : Bool) : (a = false)∨(a = true∧b = false)∨(a = true∧b = true∧c = false)∨(a = true∧b = true∧c = true):=by
  cases a
  · exact .inl rfl
  · rcases ZW b c with h | h | h
    · exact .inr (.inl ⟨rfl,h⟩)
    · exact .inr (.inr (.inl ⟨rfl,h⟩))
    · exact .inr (.inr (.inr (⟨rfl,h⟩)))
theorem ff4 (a b c d : Bool) : (a = false)∨(a = true∧b = false)∨(a = true∧b = true∧c = false)∨(a = true∧b = true∧c = true∧d = false)∨(a = true∧b = true∧c = true∧d = true):=by
  cases a
  · exact .inl rfl
  · rcases ZX b c d with h | h | h | h
    · exact .inr (.inl ⟨rfl,h⟩)
    · exact .inr (.inr (.inl ⟨rfl,h⟩))
    · exact .inr (.inr (.inr (.inl ⟨rfl,h⟩)))
    · exact .inr (.inr (.inr (.inr (⟨rfl,h⟩))))
theorem ff5 (a b c d e : Bool) : (a = false)∨(a = true∧b = false)∨(a = true∧b = true∧c = false)∨(a = true∧b = true∧c = true∧d = false)∨(a = true∧b = true∧c = true∧d = true∧e = false)∨(a = true∧b = true∧c = true∧d = true∧e = true):=by
  cases a
  · exact .inl rfl
  · rcases ff4 b c d e with h | h | h | h | h
    · exact .inr (.inl ⟨rfl,h⟩)
    · exact .inr (.inr (.inl ⟨rfl,h⟩))
    · exact .inr (.inr (.inr (.inl ⟨rfl,h⟩)))
    · exact .inr (.inr (.inr (.inr (.inl ⟨rfl,h⟩))))
    · exact .inr (.inr (.inr (.inr (.inr (⟨rfl,h⟩)))))
theorem tt1 (a : Bool) : (a = true)∨(a = false):=by cases a <;> simp
theorem tt2 (a b : Bool) : (a = true)∨(a = false∧b = true)∨(a = false∧b = false):=by
  cases a
  · rcases tt1 b with h | h
    · exact .inr (.inl ⟨rfl,h⟩)
    · exact .inr (.inr (⟨rfl,h⟩))
  · exact .inl rfl
theorem tt3 (a b c : Bool) : (a = true)∨(a = false∧b = true)∨(a = false∧b = false∧c = true)∨(a = false∧b = false∧c = false):=by
  cases a
  · rcases tt2 b c with h | h | h
    · exact .inr (.inl ⟨rfl,h⟩)
    · exact .inr (.inr (.inl ⟨rfl,h⟩))
    · exact .inr (.inr (.inr (⟨rfl,h⟩)))
  · exact .inl rfl
theorem tt4 (a b c d : Bool) : (a = true)∨(a = false∧b = true)∨(a = false∧b = false∧c = true)∨(a = false∧b = false∧c = false∧d = true)∨(a = false∧b = false∧c = false∧d = false):=by
  cases a
  · rcases tt3 b c d with h | h | h | h
    · exact .inr (.inl ⟨rfl,h⟩)
    · exact .inr (.inr (.inl ⟨rfl,h⟩))
    · exact .inr (.inr (.inr (.inl ⟨rfl,h⟩)))
    · exact .inr (.inr (.inr (.inr (⟨rfl,h⟩))))
  · exact .inl rfl
theorem tt5 (a b c d e : Bool) : (a = true)∨(a = false∧b = true)∨(a = false∧b = false∧c = true)∨(a = false∧b = false∧c = false∧d = true)∨(a = false∧b = false∧c = false∧d = false∧e = true)∨(a = false∧b = false∧c = false∧d = false∧e = false):=by
  cases a
  · rcases tt4 b c d e with h | h | h | h | h
    · exact .inr (.inl ⟨rfl,h⟩)
    · exact .inr (.inr (.inl ⟨rfl,h⟩))
    · exact .inr (.inr (.inr (.inl ⟨rfl,h⟩)))
    · exact .inr (.inr (.inr (.inr (.inl ⟨rfl,h⟩))))
    · exact .inr (.inr (.inr (.inr (.inr (⟨rfl,h⟩)))))
  · exact .inl rfl
theorem tt6 (a b c d e f : Bool) : (a = true)∨(a = false∧b = true)∨(a = false∧b = false∧c = true)∨(a = false∧b = false∧c = false∧d = true)∨(a = false∧b = false∧c = false∧d = false∧e = true)∨(a = false∧b = false∧c = false∧d = false∧e = false∧f = true)∨(a = false∧b = false∧c = false∧d = false∧e = false∧f = false):=by
  cases a
  · rcases tt5 b c d e f with h | h | h | h | h | h
    · exact .inr (.inl ⟨rfl,h⟩)
    · exact .inr (.inr (.inl ⟨rfl,h⟩))
    · exact .inr (.inr (.inr (.inl ⟨rfl,h⟩)))
    · exact .inr (.inr (.inr (.inr (.inl ⟨rfl,h⟩))))
    · exact .inr (.inr (.inr (.inr (.inr (.inl ⟨rfl,h⟩)))))
    · exact .inr (.inr (.inr (.inr (.inr (.inr (⟨rfl,h⟩))))))
  · exact .inl rfl
def fU.aB (a b : List AV) : Prop:=∀ G v,aq G a v→aq G b v
theorem fU.aB.nil : fU.aB [] []:=fun _ _ h=>h
theorem fU.aB.refl (a : List AV) : fU.aB a a:=fun _ _ h=>h
theorem fU.aB.cons {x y : AV} {xs ys : List AV} (h : x.aB y) (k : fU.aB xs ys) : fU.aB (x :: xs) (y :: ys):=by
  intro G v hv;simp only [aq] at hv ⊢;obtain ⟨u,us,rfl,h1,h2⟩:=hv;exact ⟨u,us,rfl,h G u h1,k G us h2⟩
theorem AV.oD {xs ys : List AV} (h : fU.aB xs ys) : (AV.agg xs).aB (.agg ys):=by
  intro G v hv;simp only [au] at hv ⊢;obtain ⟨vs,rfl,h1⟩:=hv;exact ⟨vs,rfl,h G vs h1⟩
theorem ai.gz {P : Program} {Γ : Nat→List AV} {f : FuncId} {args O2 : List AV} {s : AS} {Q : AV→AS→Prop} (h : fU.aB args O2) (k : ai P Γ f O2 s Q) : ai P Γ f args s Q :=
  fun G w vs hs hv=>k G w vs hs (h G vs hv)
end Go.AM
namespace Go.AM
open Go Go.RowKit
variable {P : Program} {Γ : Nat→List AV}
theorem gK.ml {N : Nat} {E : Env} {s : AS} {d o : Nat} {cs : List AV} (hE : E d = .ptr o 0) (ho : s.av o = some cs) :
    gK Γ N E s (aF E d (.dc cs)) (s.drop o):=by
  intro G a w hr;obtain ⟨b,vs,h1,h2,h3,h4,h5⟩:=hr.st.freeze ho;refine ⟨_,h3,h5,hr.size,fun i=>?_,hr.defers.trans h3.df.symm⟩;simp only [aF];split
  · rename_i e;subst e;have:=hr.tmps i;rw [hE] at this;simp only [au] at this;obtain ⟨b',k1,k2⟩:=this;rw [h1] at k1; cases k1;rw [k2];simp only [au];exact ⟨b,0,vs,rfl,aq.mono h3 _ _ h2,h4⟩
  · exact au.mono h3 _ _ (hr.tmps i)
theorem AS.drop_set {s : AS} {o : Nat} (ho : s.av o = none) (cs : List AV) : (s.set o cs).drop o = s:=by
  cases s with
  | mk av own =>
    simp only [AS.set,AS.drop,AS.mk.injEq,and_true];funext i;simp only [aF];split
    · rename_i e; subst e; exact ho.symm
    · rfl
theorem aY {N : Nat} {E : Env} {s : AS} {Q : Exit→Env→AS→Prop} (d : Nat) {id : Nat} {L : List Oper} {y : Code} (hd : d ∈ ct L)
    (h : ∀ K : Env→AS→Prop,(∀ E s o cs,E d = .ptr o 0→s.av o = none→ch P Γ N y Q (aF E d (.dc cs)) s→K E (s.set o cs))→AY P Γ N L.toArray L K E s) : ch P Γ N (.seq (.region id L.toArray false) y) Q E s:=by
  refine ke (mi ?_);have:=h (fun E' s'=>∃ jq iq,gK Γ N E' s' jq iq∧(∀ i,i ∉ ct L→jq i = E' i)∧az (ch P Γ N y Q) Q .normal jq iq) ?_
  · rw [ay] at this;simpa using this
  · intro E' s' o cs h1 h2 h3;refine ⟨aF E' d (.dc cs),s',?_,?_,h3⟩
    · have:=gK.ml (Γ:=Γ) (N:=N) (E:=E') (s:=s'.set o cs) (d:=d) h1 (AS.ae _ _ _);rwa [AS.drop_set h2] at this
    · intro i hi;exact gF _ _ (fun e=>hi (e ▸ hd))
end Go.AM
namespace Go.AM
open Go Go.RowKit
variable {P : Program} {Γ : Nat→List AV}
abbrev xfs (st : jb) : List AV:=[aj st.1 .any,.v (.int .i64 st.2)]
abbrev xcb (st : jb) : List AV:=[.v (.string ⟨st.1.toArray⟩),.v (.int .i64 st.2)]
theorem ai.forget {f : FuncId} {args : List AV} {s : AS} {Q R : AV→AS→Prop} (h : ai P Γ f args s Q) (k : ∀ r s',Q r s'→∃ iq,iq.le s'∧R r iq) : ai P Γ f args s R:=by
  intro G w vs hs hv;refine (h G w vs hs hv).mono ?_;rintro e w' ⟨G',r,v,s',h1,h2,h3,h4,h5⟩;obtain ⟨iq,k1,k2⟩:=k r s' h5;exact ⟨G',r,v,iq,h1,h2,h3.mono k1,h4,k2⟩
theorem AS.ao (s : AS) {o p : Nat} (h : p≠o) (cs : List AV) : (s.set o cs).av p = s.av p:=by simp [AS.set,aF,h]
theorem AS.eP {s : AS} {o p : Nat} {cs : List AV} (h : (s.set o cs).av p = none) : p≠o∧s.av p = none:=by
  by_cases e : p = o
  · subst e; simp [AS.set] at h
  · exact ⟨e,by simpa [AS.set,aF,e] using h⟩
theorem kL {E : Env} {s : AS} {bS : AV→AS→Prop} {a T t o off : Nat} {cs : List AV} {v : AV} (h1 : E a = .ptr o off) (h2 : s.av o = some cs) (h3 : P.cellsOf T≠0) (h4 : nB P T (cs.drop off) = some v)
    (h : ∃ r s',(AV.dX [v,E t]).aB r∧s'.le s∧bS r s') : b8 P [.cell a T,.tmp t] bS .ret E s:=by
  simp only [b8,bt,bD,cU,h1,h2,if_neg h3,h4];exact h
theorem ev {E : Env} {s : AS} {bS : AV→AS→Prop} {a T o off : Nat} {cs : List AV} {v : AV} (h1 : E a = .ptr o off) (h2 : s.av o = some cs) (h3 : P.cellsOf T≠0) (h4 : nB P T (cs.drop off) = some v)
    (h : ∃ r s',v.aB r∧s'.le s∧bS r s') : b8 P [.cell a T] bS .ret E s:=by
  simp only [b8,bt,bD,cU,h1,h2,if_neg h3,h4];exact h
theorem AS.MH (s : AS) {p o : Nat} (h : p≠o) (a b c : List AV) : ((s.set p a).set o b).set p c = (s.set p c).set o b:=by
  simp only [AS.set,AS.mk.injEq,and_true];funext i;simp only [aF];by_cases h1 : i = p
  · subst h1; simp [h]
  · simp [h1]
end Go.AM
namespace Go.AM
open Go Go.RowKit
theorem fg {a b : Ty} {gy : List AV} (h : Jd (.cons a b) gy) : ∃ x y,gy = x ++ y∧dU a x∧Jd b y:=by simpa only [Jd] using h
theorem Gp {gy : List AV} (h : Jd .nil gy) : gy = []:=by simpa only [Jd] using h
theorem uK {b : Ty} {gy : List AV} (h : dU (.struct b) gy) : Jd b gy:=by simpa only [dU] using h
theorem oE {k : IntKind} {gy : List AV} (h : dU (.int k) gy) : ∃ n,gy = [.v (.int k n)]∧(Lit.int k n).wf = true:=by simpa only [dU] using h
abbrev Cr : Ty:=.slice 1 (.int .u8)
abbrev Bk : Ty:=.int .i64
end Go.AM
namespace Go.AM
open Go Go.RowKit
variable {rd : Option Nat} {P : Program} {Γ : Nat→List AV} {G : Gh} {s : AS} {w : World}
abbrev Fz:=List (Nat × List AV)
def jt (F : Fz) (s : AS) : Prop:=∀ x ∈ F,s.av x.1 = some x.2
def uL (F : Fz) (o : Nat) : Option (List AV):=(F.find? (fun x=>x.1 == o)).map (·.2)
theorem EW {F : Fz} {s : AS} (h : jt F s) {o : Nat} {cs : List AV} (hg : uL F o = some cs) : s.av o = some cs:=by
  unfold uL at hg;rw [Option.map_eq_some_iff] at hg;obtain ⟨x,h1,rfl⟩:=hg;have h2:=List.mem_of_find?_eq_some h1;have h3:=List.find?_some h1;simp only [beq_iff_eq] at h3;rw [← h3];exact h x h2
def dd (P : Program) (F : Fz) (ρ : Operand→AV) (op : Op) : Option AV :=
  match op with
  | .load T x=>match ρ x with
    | .ptr o off=>match uL F o with
      | some cs=>if P.cellsOf T = 0 then none else nB P T (cs.drop off)
      | none=>none
    | _=>none
  | _=>none
theorem EX {F : Fz} {ρ ρ' : Operand→AV} {op : Op} (h : ∀ x ∈ op.operands,ρ x = ρ' x) : dd P F ρ op = dd P F ρ' op:=by
  cases op <;> simp only [dd];case load T x=>rw [h x (by simp [Op.operands])]
section
variable {N : Nat} {ops : Array Oper}
def dh (ops : Array Oper) (o : Oper) (E : Env) (v : Option AV) : Option AV :=
  match o.guard with
  | none=>v
  | some (j,want) =>
    match mR ops j with
    | none=>none
    | some d =>
      match E d with
      | .v (.bool t)=>if t = want then v else some (.v undef)
      | .v (.tuple _)=>some (.v undef)
      | _=>none
def pX (P : Program) (Γ : Nat→List AV) (ops : Array Oper) (F : Fz) (m : Nat) (o : Oper) (E : Env) : Option AV :=
  dh ops o E (if m = 1 then dd P F (aL Γ E) o.op else cy P (aL Γ E) o.op)
theorem lH {F : Fz} {m : Nat} {o : Oper} {E E' : Env} (h : ∀ d,d ∈ o.looksAt ops→E' d = E d) : pX P Γ ops F m o E' = pX P Γ ops F m o E:=by
  have gC : ∀ x ∈ o.op.operands,aL Γ E' x = aL Γ E x:=fun x hx=>by
    cases x with
    | tmp t=>exact h t (List.mem_append_left _ (List.mem_filterMap.2 ⟨.tmp t,by simpa using hx,rfl⟩))
    | const v=>rfl
    | global g=>rfl
    | func f=>rfl
  unfold pX;rw [EX gC,mT gC];unfold dh;split
  · rfl
  · rename_i j want hg;split
    · rfl
    · rename_i d hj;have : E' d = E d:=h d (by
        by_cases hd : d ∈ o.looksAt ops
        · exact hd
        · exact absurd hj (lE hd hg))
      rw [this]
def iA (L : List (Oper × Nat)) : Bool:=L.any fun x=>x.2 == 1
def oi (P : Program) (Γ : Nat→List AV) (N : Nat) (ops : Array Oper) (F : Fz) : List (Oper × Nat)→(Env→AS→Prop)→Env→AS→Prop
  | [],K,E,s=>K E s
  | (o,m) :: rest,K,E,s =>
    if m≤1 then (∀ d,o.dst = some d→d < N)∧match pX P Γ ops F m o E with | some v=>oi P Γ N ops F rest K (bu E o.dst v) s | none=>False
    else AX P Γ N ops [o] (fun E' s'=>((m = 2∨iA rest = true)→jt F s')∧oi P Γ N ops F rest K E' s') E s
theorem rY {F : Fz} : ∀ (L : List (Oper × Nat)) {K K' : Env→AS→Prop} {E : Env} {s : AS},(∀ E s,K E s→K' E s)→oi P Γ N ops F L K E s→oi P Γ N ops F L K' E s
  | [],K,K',E,s,hk,h=>hk _ _ h
  | (o,m) :: L,K,K',E,s,hk,h=>by
    simp only [oi] at h ⊢;split at h
    · rename_i he;rw [if_pos he];refine ⟨h.1,?_⟩;have h:=h.2;split at h
      · exact rY L hk h
      · exact h
    · rename_i he; rw [if_neg he]; exact cJ _ (fun E s h=>⟨h.1,rY L hk h.2⟩) h
theorem iN {x : Oper × Nat} {L : List (Oper × Nat)} : iA (x :: L) = ((x.2 == 1) || iA L):=rfl
theorem mV {L M : List (Oper × Nat)} : iA (L ++ M) = (iA L || iA M):=by simp [iA]
theorem Jh {F : Fz} {o : Oper} {m : Nat} {L : List (Oper × Nat)} {E : Env} {K : Env→AS→Prop} (hp : iA ((o,m) :: L) = true→jt F s) (h : oi P Γ N ops F ((o,m) :: L) K E s) :
    AX P Γ N ops [o] (fun E' s'=>(iA L = true→jt F s')∧oi P Γ N ops F L K E' s') E s:=by
  have O3 : iA L = true→jt F s:=fun h=>hp (by rw [iN,h,Bool.or_true]);simp only [oi] at h;split at h
  · rename_i hm;have core : ∀ v,(if m = 1 then dd P F (aL Γ E) o.op else cy P (aL Γ E) o.op) = some v→oi P Γ N ops F L K (bu E o.dst v) s →
        bW P Γ (aL Γ E) s (fun r s'=>(iA L = true→jt F s')∧oi P Γ N ops F L K (bu E o.dst r) s') o.op:=by
      intro v hv hK;by_cases h1 : m = 1
      · rw [if_pos h1] at hv;have hP : jt F s:=hp (by rw [iN]; simp [h1]);cases gC : o.op <;> rw [gC] at hv <;> simp only [dd] at hv <;> try (cases hv; done)
        rename_i T x;cases hx : aL Γ E x <;> rw [hx] at hv <;> simp only at hv <;> try (cases hv; done)
        rename_i ob off;cases hg : uL F ob with
        | none=>rw [hg] at hv; cases hv
        | some cs =>
          rw [hg] at hv;simp only at hv;split at hv
          · cases hv
          · rename_i hc;have ha : cy P (aL Γ E) (.load T x) = none:=(by simp only [cy,hx]);simp only [bW,ha,mU,hx,EW hP hg,hv];exact ⟨hc,O3,hK⟩
      · rw [if_neg h1] at hv;simp only [bW,hv];exact ⟨O3,hK⟩
    simp only [AX];refine ⟨h.1,?_⟩;have h:=h.2;unfold pX dh at h;cases hg : o.guard with
    | none =>
      simp only [hg] at h;split at h
      · rename_i v hv; exact core v hv h
      · exact h.elim
    | some p =>
      obtain ⟨j,want⟩:=p;simp only [hg] at h;cases hj : mR ops j with
      | none=>simp [hj] at h
      | some d =>
        simp only [hj] at h ⊢;split
        · rename_i t hE;simp only [hE] at h;split
          · rename_i ht;simp only [if_pos ht] at h;split at h
            · rename_i v hv; exact core v hv h
            · exact h.elim
          · rename_i ht;simp only [if_neg ht] at h;exact ⟨O3,h⟩
        · rename_i c hE;simp only [hE] at h;exact ⟨O3,h⟩
        · rename_i cW CP;split at h
          · rename_i v hv;split at hv
            · rename_i t hE;exact absurd hE (cW t)
            · rename_i c hE;exact absurd hE (CP c)
            · cases hv
          · exact h
  · exact cJ _ (fun E' s' hE=>⟨fun hn=>hE.1 (.inr hn),hE.2⟩) h
theorem xd {F : Fz} {y : Oper} {m : Nat} (hm : m≤1) {L2 : List (Oper × Nat)} {K : Env→AS→Prop} : ∀ (L1 : List (Oper × Nat)) {G : Gh} {E : Env} {s : AS} {a : Act} {w : World},(∀ x ∈ L1,fb ops x.1 y)→(iA (L1 ++ (y,m) :: L2) = true→jt F s)→oi P Γ N ops F (L1 ++ (y,m) :: L2) K E s→Rel Γ N G E s a w →
    (∀ d,y.dst = some d→d < N)∧∃ v,pX P Γ ops F m y E = some v
  | [],G,E,s,a,w,_,hp,h,hr=>by
    simp only [List.nil_append,oi,if_pos hm] at h;refine ⟨h.1,?_⟩;have h:=h.2;split at h
    · rename_i v hv; exact ⟨v,hv⟩
    · exact h.elim
  | (x,ex) :: L1,G,E,s,a,w,mb,hp,h,hr=>by
    obtain ⟨G',E',s',a',w',Bc,hK,hf⟩:=lF (Jh hp h) hr;obtain ⟨h1,v,h2⟩:=xd hm L1 (fun x hx=>mb x (List.mem_cons_of_mem _ hx)) hK.1 hK.2 Bc;refine ⟨h1,v,?_⟩;rw [← h2];refine (lH fun d hd=>hf d fun e=>?_).symm;exact (Oper.apart_spec (mb (x,ex) (by simp))).1 d e hd
theorem kM {F : Fz} {y : Oper} {m : Nat} (hm : m≤1) {L2 : List (Oper × Nat)} {K : Env→AS→Prop} {v : AV} : ∀ (L1 : List (Oper × Nat)) {E : Env} {s : AS},(∀ x ∈ L1,fb ops x.1 y)→pX P Γ ops F m y E = some v→oi P Γ N ops F (L1 ++ (y,m) :: L2) K E s →
    oi P Γ N ops F (L1 ++ L2) K (bu E y.dst v) s
  | [],E,s,_,hv,h=>by
    simp only [List.nil_append,oi,if_pos hm,hv] at h;exact h.2
  | (x,ex) :: L1,E,s,mb,hv,h=>by
    obtain ⟨a1,a2,a3⟩:=Oper.apart_spec (mb (x,ex) (by simp));have pJ : ∀ x ∈ L1,fb ops x.1 y:=fun x hx=>mb x (List.mem_cons_of_mem _ hx);have OZ : ∀ E' : Env,(∀ i,x.dst≠some i→E' i = E i)→pX P Γ ops F m y E' = some v:=fun E' hE=>by
      rw [lH (E:=E) fun d hd=>hE d fun e=>a1 d e hd,hv]
    simp only [List.cons_append,oi] at h ⊢;split at h
    · rename_i he;rw [if_pos he];refine ⟨h.1,?_⟩;have h:=h.2;rw [lH (E:=E) fun d hd=>cp fun e=>a3 d e hd];split at h
      · rename_i u hu;simp only [hu];rw [po (fun d h1 h2=>a2 d h2 h1)];exact kM hm L1 pJ (OZ _ fun i hi=>cp hi) h
      · exact h.elim
    · rename_i he;rw [if_neg he];refine (tf (fun d hd=>a3 d hd) (fun d hd e=>a2 d e hd)).2 ?_;refine cJ _ (fun E' s' hE=>?_) (cR h);refine ⟨fun hn=>hE.1.1 (hn.imp id fun hn=>?_),kM hm L1 pJ (OZ E' hE.2) hE.1.2⟩;rw [mV] at hn ⊢;rw [iN];simp only [Bool.or_eq_true] at hn ⊢;rcases hn with hn | hn
      · exact .inl hn
      · exact .inr (.inr hn)
theorem pY {F : Fz} {y : Oper} {m : Nat} (hm : ¬ m≤1) {L2 : List (Oper × Nat)} {K : Env→AS→Prop} : ∀ (L1 : List (Oper × Nat)) {E : Env} {s : AS},(∀ x ∈ L1,fb ops x.1 y∧x.2≤1∧(m≠2→x.2≠1))→oi P Γ N ops F (L1 ++ (y,m) :: L2) K E s →
    AX P Γ N ops [y] (fun E' s'=>((m = 2∨iA (L1 ++ L2) = true)→jt F s')∧oi P Γ N ops F (L1 ++ L2) K E' s') E s
  | [],E,s,_,h=>by simpa only [List.nil_append,oi,if_neg hm] using h
  | (x,ex) :: L1,E,s,mb,h=>by
    obtain ⟨I7,hex,hl⟩:=mb (x,ex) (by simp);simp only at hex hl;obtain ⟨a1,a2,a3⟩:=Oper.apart_spec I7;have pJ : ∀ x ∈ L1,fb ops x.1 y∧x.2≤1∧(m≠2→x.2≠1):=fun x hx=>mb x (List.mem_cons_of_mem _ hx);simp only [List.cons_append,oi,if_pos hex] at h;obtain ⟨h0,h⟩:=h;split at h
    · rename_i v hv;have h1:=pY hm L1 pJ h;have h2:=(tf (fun d hd=>a1 d hd) (fun d hd=>a2 d hd)).1 h1;refine cJ _ (fun E' s' hE=>⟨?_,?_⟩) (cR h2)
      · intro hn;refine hE.1.1 ?_;by_cases h2 : m = 2
        · exact .inl h2
        · refine .inr ?_;rcases hn with hn | hn
          · exact absurd hn h2
          · rw [List.cons_append,iN] at hn;simpa [hl h2] using hn
      · simp only [List.cons_append,oi,if_pos hex];refine ⟨h0,?_⟩;rw [lH (E:=E) fun d hd=>hE.2 d fun e=>a3 d e hd,hv];exact hE.1.2
    · exact h.elim
def eR (fl ld lx : List Nat) (i : Nat) : Nat:=if ld.contains i then 1 else if fl.contains i then 2 else if lx.contains i then 3 else 0
def Dh (ops : Array Oper) (D : List Nat) (mk : Nat→Nat) : Bool :=
  (List.range ops.size).all fun j=>(List.range j).all fun i =>
    match ops[i]?,ops[j]? with
    | some x,some y=>(D.getD j 0).testBit i || (x.apart ops y && !(decide (2≤mk i) && decide (2≤mk j)) && !(mk i == 1 && mk j == 3))
    | _,_=>true
def rZ (ops : Array Oper) (mk : Nat→Nat) : Bool:=zO ops (Region.before ops).toList && Dh ops (Region.before ops).toList mk
def eg (ops : Array Oper) (mk : Nat→Nat) (i : Nat) : Oper × Nat:=((ops[i]?).getD default,mk i)
theorem Bl {F : Fz} {mk : Nat→Nat} (L7 : ∀ i,mk i≤3) {Q : Exit→Act→World→Prop} {K : Env→AS→Prop} (iz : rZ ops mk = true) :
    ∀ (fuel : Nat) (listed : Array Bool) {G : Gh} {E : Env} {s : AS} {a : Act} {w : World},listed.size = ops.size→(left ops listed).length≤fuel →
      (∀ (i : Nat) (o : Oper),ops[i]? = some o→listed.getD i true = true→∀ e ∈ o.after.toList,Region.binds .any e = true→listed.getD e.on false = true) →
      (iA ((left ops listed).map (eg ops mk)) = true→jt F s)→oi P Γ N ops F ((left ops listed).map (eg ops mk)) K E s→Rel Γ N G E s a w →
      (∀ G' E' s' a' w',G.le G'→Rel Γ N G' E' s' a' w'→K E' s'→Q .normal a' w')→wpAnyIn (te rd) 0 P .any ops Q fuel listed a w:=by
  simp only [rZ,Bool.and_eq_true] at iz
  obtain ⟨yJ,qB⟩:=iz
  intro fuel
  have rK : ∀ (listed : Array Bool),Region.ready .any ops listed = []→left ops listed = []:=by
    intro listed h
    -- the first that is left could go
    cases hl : left ops listed with
    | nil=>rfl
    | cons i L =>
      exfalso
      have hi : i ∈ left ops listed:=by rw [hl]; simp
      obtain ⟨h1,h2⟩:=mem_left.1 hi
      have Be : ∀ j,j < i→listed.getD j true = true:=by
        intro j hj
        cases CI : listed.getD j true with
        | true=>rfl
        | false =>
          exfalso
          have Gf : j ∈ left ops listed:=mem_left.2 ⟨by omega,CI⟩
          have hs : (left ops listed).Pairwise (· < ·):=by
            unfold left
            exact List.Pairwise.filter _ List.pairwise_lt_range
          rw [hl] at hs Gf
          rcases List.mem_cons.1 Gf with rfl | Gf
          · omega
          · have:=(List.pairwise_cons.1 hs).1 j Gf
            omega
      have ho : ops[i]? = some ops[i]:=by simp [h1]
      have hr : i ∈ Region.ready .any ops listed:=by
        rw [mem_ready]
        refine ⟨h2,_,ho,fun e he hb=>?_⟩
        have bI:=(iJ yJ ho).2 e (by simpa using he) hb
        have:=Be _ bI
        -- both defaults agree where the place is there
        have eL : e.on < listed.size:=by
          rcases Nat.lt_or_ge e.on listed.size with h' | h'
          · exact h'
          · exfalso
            have : listed.getD i true = true:=by
              simp [Array.getElem?_eq_none (show listed.size≤i by omega)]
            rw [h2] at this; cases this
        simpa [eL] using this
      rw [h] at hr
      cases hr
  induction fuel with
  | zero =>
    intro listed G E s a w eL hlen eV hP h hr hq
    have hl : left ops listed = []:=List.eq_nil_of_length_eq_zero (by omega)
    have jr : Region.ready .any ops listed = []:=by
      cases QE : Region.ready .any ops listed with
      | nil=>rfl
      | cons i L =>
        exfalso
        have : i ∈ Region.ready .any ops listed:=by rw [QE]; simp
        rw [mem_ready] at this
        obtain ⟨h0,o,ho,_⟩:=this
        have : i ∈ left ops listed:=mem_left.2 ⟨(Array.getElem?_eq_some_iff.1 ho).1,h0⟩
        rw [hl] at this
        cases this
    rw [hl] at h
    exact ⟨jr,hq G E s a w (.refl G) hr h⟩
  | succ fuel ih =>
    intro listed G E s a w eL hlen eV hP h hr hq
    refine ⟨fun jr=>?_,fun i hi=>?_⟩
    · rw [rK listed jr] at h
      exact hq G E s a w (.refl G) hr h
    · obtain ⟨h0,o,ho,bR⟩:=mem_ready.1 hi
      have yK : i < ops.size:=(Array.getElem?_eq_some_iff.1 ho).1
      obtain ⟨L1,L2,q1,q2,q3⟩:=wD eL yK h0
      -- what comes before i is done
      have rL : ∀ (j : Nat) (oj : Oper),ops[j]? = some oj→(∀ e ∈ oj.after.toList,Region.binds .any e = true→listed.getD e.on false = true)→∀ l,((Region.before ops).toList.getD j 0).testBit l = true→listed.getD l false = true:=by
        intro j
        induction j using Nat.strongRecOn with
        | _ j Tt =>
          intro oj zQ hj l hl
          obtain ⟨d1,d2⟩:=iJ yJ zQ
          obtain ⟨e,he,hb,h1⟩:=d1 l hl
          have yB:=hj e he hb
          rcases h1 with rfl | h1
          · exact yB
          · have bI:=d2 e he hb
            have Tu : e.on < ops.size:=by
              have:=(Array.getElem?_eq_some_iff.1 zQ).1
              omega
            have CQ : ops[e.on]? = some ops[e.on]:=by simp [Tu]
            refine Tt e.on bI _ CQ (eV e.on _ CQ ?_) l h1
            have : e.on < listed.size:=by omega
            simpa [this] using yB
      have zR : ∀ x ∈ L1,fb ops ((ops[x]?).getD default) o∧¬ (2≤mk x∧2≤mk i)∧¬ (mk x = 1∧mk i = 3):=by
        intro x hx
        obtain ⟨ZT,L5⟩:=q3 x hx
        unfold Dh at qB
        rw [List.all_eq_true] at qB
        have h1:=qB i (by simpa using yK)
        rw [List.all_eq_true] at h1
        have h2:=h1 x (by simpa using ZT)
        have Tv : ops[x]? = some (ops[x]'(by omega)):=by simp
        rw [Tv,ho] at h2
        simp only [Bool.or_eq_true,Bool.and_eq_true,Bool.not_eq_true'] at h2
        rcases h2 with h2 | ⟨⟨h2,h3⟩,h4⟩
        · exfalso
          have:=rL i o ho (fun e he hb=>bR e (by simpa using he) hb) x h2
          have Tw : x < listed.size:=by omega
          simp [Tw] at this L5
          rw [L5] at this; cases this
        · refine ⟨by rw [Tv]; exact h2,fun hc=>?_,fun hc=>?_⟩
          · simp [hc.1,hc.2] at h3
          · simp [hc.1,hc.2] at h4
      have ck : ∀ {G' : Gh} {E' : Env} {s' : AS} {a' : Act} {w' : World},G.le G'→(iA ((L1 ++ L2).map (eg ops mk)) = true→jt F s')→oi P Γ N ops F ((L1 ++ L2).map (eg ops mk)) K E' s'→Rel Γ N G' E' s' a' w'→wpAnyIn (te rd) 0 P .any ops Q fuel (listed.setIfInBounds i true) a' w':=by
        intro G' E' s' a' w' hle hP' hA Bc
        refine ih (listed.setIfInBounds i true) (by simpa using eL) ?_ ?_ (by rw [q2]; exact hP') ?_ Bc (fun uB jq iq yH vn k1 k2 k3=>hq uB jq iq yH vn (hle.trans k1) k2 k3)
        · rw [q2]
          rw [q1] at hlen
          simp at hlen ⊢
          omega
        · intro j oj zQ hj e he hb
          by_cases Eu : j = i
          · subst Eu
            rw [ho] at zQ; cases zQ
            exact getD_set_true (bR e (by simpa using he) hb)
          · rw [getD_set_ne true (Ne.symm Eu)] at hj
            exact getD_set_true (eV j oj zQ hj e he hb)
        · rw [q2]; exact hA
      rw [q1] at h hP
      simp only [List.map_append,List.map_cons] at h ck hP
      have gC : eg ops mk i = (o,mk i):=by simp [eg,ho]
      rw [gC] at h hP
      by_cases hf : mk i≤1
      · have mb : ∀ x ∈ L1.map (eg ops mk),fb ops x.1 o:=by
          intro x hx
          obtain ⟨j,hj,rfl⟩:=List.mem_map.1 hx
          exact (zR j hj).1
        obtain ⟨hd,v,hv⟩:=xd hf _ mb hP h hr
        have h1:=kM hf _ mb hv h
        have hX : oi P Γ N ops F ((o,mk i) :: (L1.map (eg ops mk) ++ L2.map (eg ops mk))) K E s:=by
          simp only [oi,if_pos hf,hv]
          exact ⟨hd,h1⟩
        have h2:=Jh (fun hn=>hP (by
          rw [iN,mV] at hn
          rw [mV,iN]
          simp only [Bool.or_eq_true] at hn ⊢
          rcases hn with hn | hn | hn
          · exact .inr (.inl hn)
          · exact .inl hn
          · exact .inr (.inr hn))) hX
        exact iS (L:=[]) (K:=fun E s=>(iA (L1.map (eg ops mk) ++ L2.map (eg ops mk)) = true→jt F s)∧oi P Γ N ops F (L1.map (eg ops mk) ++ L2.map (eg ops mk)) K E s) ho h2 hr (fun G' E' s' a' w' k1 k2 k3=>ck k1 k3.1 k3.2 k2)
      · have mb : ∀ x ∈ L1.map (eg ops mk),fb ops x.1 o∧x.2≤1∧(mk i≠2→x.2≠1):=by
          intro x hx
          obtain ⟨j,hj,rfl⟩:=List.mem_map.1 hx
          obtain ⟨p1,p2,p3⟩:=zR j hj
          have Ev:=L7 i
          refine ⟨p1,?_,fun h2 h3=>?_⟩
          · show mk j≤1
            omega
          · have h3 : mk j = 1:=h3
            omega
        have h2:=pY hf _ mb h
        exact iS (L:=[]) (K:=fun E s=>((mk i = 2∨iA (L1.map (eg ops mk) ++ L2.map (eg ops mk)) = true)→jt F s)∧oi P Γ N ops F (L1.map (eg ops mk) ++ L2.map (eg ops mk)) K E s) ho h2 hr (fun G' E' s' a' w' k1 k2 k3=>ck k1 (fun hn=>k3.1 (.inr hn)) k3.2 k2)
theorem tj {F : Fz} : ∀ (L : List (Oper × Nat)) {K : Env→AS→Prop} {E : Env} {s : AS},oi P Γ N ops F L K E s→oi P Γ N ops F L (fun E' s'=>K E' s'∧∀ i,i ∉ ct (L.map (·.1))→E' i = E i) E s
  | [],K,E,s,h=>⟨h,fun _ _=>rfl⟩
  | (o,m) :: L,K,E,s,h=>by
    have ir : ∀ i,i ∉ ct (((o,m) :: L).map (·.1))→i ∉ ct (L.map (·.1))∧o.dst≠some i:=by
      intro i hi;simp only [ct,List.map_cons,List.filterMap_cons] at hi;refine ⟨fun hm=>hi ?_,fun e=>hi (by simp [e])⟩;simp only [ct] at hm;split
      · exact hm
      · exact List.mem_cons_of_mem _ hm
    simp only [oi] at h ⊢;split at h
    · rename_i he;rw [if_pos he];refine ⟨h.1,?_⟩;have h:=h.2;split at h
      · refine rY L (fun jq iq CR=>⟨CR.1,fun i hi=>?_⟩) (tj L h);obtain ⟨m1,m2⟩:=ir i hi;rw [CR.2 i m1,cp m2]
      · exact h
    · rename_i he;rw [if_neg he];refine cJ _ (fun E' s' hE=>⟨hE.1.1,?_⟩) (cR h);refine rY L (fun jq iq CR=>⟨CR.1,fun i hi=>?_⟩) (tj L hE.1.2);obtain ⟨m1,m2⟩:=ir i hi;rw [CR.2 i m1,hE.2 i m2]
theorem vp {E : Env} {Q : Exit→Env→AS→Prop} (hm : P.follows .mixedOrders = true) (F : Fz) (mk : Nat→Nat) (L7 : ∀ i,mk i≤3) {id : Nat} (iz : rZ ops mk = true) (hP : jt F s)
    (h : oi P Γ N ops F ((List.range ops.size).map (eg ops mk)) (fun E' s'=>Q .normal E' s') E s) : ch P Γ N (.region id ops true) Q E s:=by
  intro G a w hr;refine wpIn_region_any hm ?_;have CT : left ops (Array.replicate ops.size false) = List.range ops.size:=by
    unfold left;rw [List.filter_eq_self];intro i hi;have : i < ops.size:=(by simpa using hi);simp [this]
  have Bc : Rel Γ N G E s a w.drew:=⟨hr.st.drew,hr.size,hr.tmps,hr.defers⟩;refine Bl L7 iz ops.size (Array.replicate ops.size false) (by simp) (by rw [CT]; simp) ?_ (fun _=>hP) (by rw [CT]; exact tj _ h) Bc ?_
  · intro i o ho hl;have : i < ops.size:=(Array.getElem?_eq_some_iff.1 ho).1;simp [this] at hl
  · intro G' E' s' a' w' h1 h2 h3;refine ⟨G',E',s',h1,h2,h3.1,fun i hi=>h3.2 i fun hm=>hi ?_⟩;have : ((List.range ops.size).map (eg ops mk)).map (·.1) = ops.toList:=by
      apply List.ext_getElem?;intro j;simp only [List.getElem?_map];by_cases hj : j < ops.size
      · simp [hj,eg]
      · simp [hj]
    have HA : i ∈ ct (((List.range ops.size).map (eg ops mk)).map (·.1)):=hm;rw [this] at HA;exact HA
end
end Go.AM
namespace Go.AM
open Go Go.RowKit
variable {P : Program} {Γ : Nat→List AV} {s : AS}
section
variable {N : Nat} {ops : Array Oper}
theorem HD (fl ld lx : List Nat) (i : Nat) : eR fl ld lx i≤3:=by
  unfold eR; split
  · omega
  · split
    · omega
    · split <;> omega
def Di (P : Program) (Γ : Nat→List AV) (N : Nat) (ops : Array Oper) (F : Fz) (fl ld lx : List Nat) : Nat→List Oper→(Env→AS→Prop)→Env→AS→Prop
  | _,[],K,E,s=>K E s
  | k,o :: rest,K,E,s =>
    if ld.contains k = true then (∀ d,o.dst = some d→d < N)∧match dh ops o E (dd P F (aL Γ E) o.op) with | some v=>Di P Γ N ops F fl ld lx (k + 1) rest K (bu E o.dst v) s | none=>False
    else if fl.contains k = true then AY P Γ N ops [o] (fun E' s'=>jt F s'∧Di P Γ N ops F fl ld lx (k + 1) rest K E' s') E s
    else if lx.contains k = true then AY P Γ N ops [o] (fun E' s'=>((ld.any fun i=>decide (k < i)) = true→jt F s')∧Di P Γ N ops F fl ld lx (k + 1) rest K E' s') E s
    else (∀ d,o.dst = some d→d < N)∧match dh ops o E (cy P (aL Γ E) o.op) with | some v=>Di P Γ N ops F fl ld lx (k + 1) rest K (bu E o.dst v) s | none=>False
theorem gN {F : Fz} {fl ld lx : List Nat} : ∀ (L : List Oper) (k : Nat) {K : Env→AS→Prop} {E : Env} {s : AS},(∀ j o,L[j]? = some o→ops[k + j]? = some o)→Di P Γ N ops F fl ld lx k L K E s →
    oi P Γ N ops F ((List.range' k L.length).map (eg ops (eR fl ld lx))) K E s
  | [],k,K,E,s,_,h=>h
  | o :: L,k,K,E,s,hL,h=>by
    have ho : ops[k]? = some o:=(by simpa using hL 0 o (by simp));have O4 : ∀ j o',L[j]? = some o'→ops[k + 1 + j]? = some o':=fun j o' hj=>by
      have:=hL (j + 1) o' (by simpa using hj);rwa [show k + 1 + j = k + (j + 1) from by omega]
    have gC : eg ops (eR fl ld lx) k = (o,eR fl ld lx k):=(by simp [eg,ho]);rw [List.length_cons,List.range'_succ,List.map_cons,gC];simp only [Di] at h;split at h
    · rename_i hl;have hm : eR fl ld lx k = 1:=(by unfold eR; rw [if_pos hl]);rw [hm];simp only [oi,if_pos (Nat.le_refl 1)];refine ⟨h.1,?_⟩;have h:=h.2;unfold pX;rw [if_pos rfl];split at h
      · rename_i v hv; first | (simp only [hv]; exact gN L (k + 1) O4 h) | (rw [hv]; exact gN L (k + 1) O4 h) | exact gN L (k + 1) O4 h
      · exact h.elim
    · rename_i hl;split at h
      · rename_i hf;have hm : eR fl ld lx k = 2:=(by unfold eR; rw [if_neg hl,if_pos hf]);rw [hm];simp only [oi];rw [if_neg (by omega)];rw [ay] at h;exact cJ _ (fun E' s' hE=>⟨fun _=>hE.1,gN L (k + 1) O4 hE.2⟩) h
      · rename_i hf;split at h
        · rename_i hx;have hm : eR fl ld lx k = 3:=(by unfold eR; rw [if_neg hl,if_neg hf,if_pos hx]);rw [hm];simp only [oi];rw [if_neg (by omega)];rw [ay] at h;refine cJ _ (fun E' s' hE=>⟨fun hn=>hE.1 ?_,gN L (k + 1) O4 hE.2⟩) h;rcases hn with hn | hn
          · omega
          · unfold iA at hn;rw [List.any_eq_true] at hn ⊢;obtain ⟨x,ZY,SQ⟩:=hn;obtain ⟨i,hi,rfl⟩:=List.mem_map.1 ZY;have YQ : k + 1≤i:=by
              rw [List.mem_range'] at hi;obtain ⟨j,_,rfl⟩:=hi;omega
            have L8 : eR fl ld lx i = 1:=(by simpa [eg] using SQ);have hc : ld.contains i = true:=by
              unfold eR at L8;split at L8
              · assumption
              · split at L8
                · omega
                · split at L8 <;> omega
            refine ⟨i,by simpa using hc,by simp; omega⟩
        · rename_i hx;have hm : eR fl ld lx k = 0:=(by unfold eR; rw [if_neg hl,if_neg hf,if_neg hx]);rw [hm];simp only [oi,if_pos (Nat.zero_le 1)];refine ⟨h.1,?_⟩;have h:=h.2;unfold pX;rw [if_neg (by omega)];split at h
          · rename_i v hv; first | (simp only [hv]; exact gN L (k + 1) O4 h) | (rw [hv]; exact gN L (k + 1) O4 h) | exact gN L (k + 1) O4 h
          · exact h.elim
theorem Ji : ∃ f : Program→(Nat→List AV)→Nat→Array Oper→Fz→List Nat→List Nat→List Nat→Nat→List Oper→(Env→AS→Prop)→Env→AS→Prop,f = Di:=⟨_,rfl⟩
noncomputable def MI : Program→(Nat→List AV)→Nat→Array Oper→Fz→List Nat→List Nat→List Nat→Nat→List Oper→(Env→AS→Prop)→Env→AS→Prop:=Classical.choose Ji
theorem ZZ : MI = Di:=Classical.choose_spec Ji
variable {F : Fz} {fl ld lx : List Nat} {k : Nat} {K : Env→AS→Prop} {E : Env} {o : Oper} {rest : List Oper}
theorem bp : MI P Γ N ops F fl ld lx k [] K E s = K E s:=by rw [ZZ]; rfl
theorem a7 : MI P Γ N ops F fl ld lx k (o :: rest) K E s =
    if ld.contains k = true then (∀ d,o.dst = some d→d < N)∧match dh ops o E (dd P F (aL Γ E) o.op) with | some v=>MI P Γ N ops F fl ld lx (k + 1) rest K (bu E o.dst v) s | none=>False
    else if fl.contains k = true then AY P Γ N ops [o] (fun E' s'=>jt F s'∧MI P Γ N ops F fl ld lx (k + 1) rest K E' s') E s
    else if lx.contains k = true then AY P Γ N ops [o] (fun E' s'=>((ld.any fun i=>decide (k < i)) = true→jt F s')∧MI P Γ N ops F fl ld lx (k + 1) rest K E' s') E s
    else (∀ d,o.dst = some d→d < N)∧match dh ops o E (cy P (aL Γ E) o.op) with | some v=>MI P Γ N ops F fl ld lx (k + 1) rest K (bu E o.dst v) s | none=>False:=by rw [ZZ]; rfl
theorem aS (o : Nat) : uL [] o = none:=rfl
theorem aO (a : Nat) (cs : List AV) (F : Fz) (o : Nat) : uL ((a,cs) :: F) o = if a = o then some cs else uL F o:=by
  unfold uL;rw [List.find?_cons];by_cases h : a = o
  · subst h; simp
  · rw [if_neg h,show (a == o) = false from by simpa using h]
theorem aJ : jt [] s = True:=by simp [jt]
theorem aG (a : Nat) (cs : List AV) (F : Fz) : jt ((a,cs) :: F) s = (s.av a = some cs∧jt F s):=by simp [jt]
end
section
variable {N : Nat} {E : Env} {Q : Exit→Env→AS→Prop}
theorem cH (hm : P.follows .mixedOrders = true) (F : Fz) (fl ld lx : List Nat) {id : Nat} {L : List Oper} (iz : rZ L.toArray (eR fl ld lx) = true) (hP : jt F s)
    (h : ∀ K : Env→AS→Prop,(∀ E s,Q .normal E s→K E s)→MI P Γ N L.toArray F fl ld lx 0 L K E s) : ch P Γ N (.region id L.toArray true) Q E s:=by
  refine vp hm F (eR fl ld lx) (HD fl ld lx) iz hP ?_;have h1:=h _ fun _ _ h=>h;rw [ZZ] at h1;have h2:=gN (ops:=L.toArray) L 0 (fun j o hj=>by simpa using hj) h1;simpa [List.range_eq_range'] using h2
theorem dL (hm : P.follows .mixedOrders = true) (F : Fz) (fl ld lx : List Nat) {id : Nat} {L : List Oper} {y : Code} (iz : rZ L.toArray (eR fl ld lx) = true) (hP : jt F s)
    (h : ∀ K : Env→AS→Prop,(∀ E s,ch P Γ N y Q E s→K E s)→MI P Γ N L.toArray F fl ld lx 0 L K E s) : ch P Γ N (.seq (.region id L.toArray true) y) Q E s :=
  ke (cH hm F fl ld lx iz hP fun K hK=>h K hK)
end
end Go.AM
namespace Go.AM
open Go Go.RowKit
variable {rd : Option Nat} {P : Program} {Γ : Nat→List AV} {G : Gh} {s : AS} {w : World}
theorem aN.ext {w' : World} (h : aN Γ G s w) (hb : Below w.heap.size w w') : aN Γ G s w' where
  ro b j u hu:=by
    have:=h.ro b j u hu;rw [hb.cell (World.block_lt_of_cell? w _ this)];exact this
  av o cs hc:=by
    obtain ⟨b,vs,h1,h2,h3,h4⟩:=h.av o cs hc;have bI:=h.cK o b h1;exact ⟨b,vs,h1,h2,h3,fun j u hu=>⟨by rw [hb.cell (p:=⟨b,j,none⟩) bI]; exact (h4 j u hu).1,by rw [hb.frozen (p:=⟨b,j,none⟩) bI]; exact (h4 j u hu).2.1,(h4 j u hu).2.2⟩⟩
  cK o b MJ:=Nat.lt_of_lt_of_le (h.cK o b MJ) hb.size;inj:=h.inj;own t e he:=by
    obtain ⟨b,st,en,h1,h2,h3,h4,h5,h6⟩:=h.own t e he;refine ⟨b,st,en,h1,h2,h3,fun j hj jZ=>?_,h5,Nat.lt_of_lt_of_le h6 hb.size⟩;obtain ⟨⟨u,hu⟩,h7,h8⟩:=h4 j hj jZ;exact ⟨⟨u,by rw [hb.cell (p:=⟨b,j,none⟩) h6]; exact hu⟩,by rw [hb.frozen (p:=⟨b,j,none⟩) h6]; exact h7,h8⟩
  cx:=h.cx;bJ:=h.bJ;cn:=h.cn;bU:=h.bU;below:=h.below.trans (hb.mono h.base);others:=h.others.trans fun k o hk _=>(hb.block k (Array.getElem?_eq_some_iff.1 hk).1).trans hk;base:=Nat.le_trans h.base hb.size;gA:=h.gA;soft b c T lo hi hB hh:=by
    rw [hb.block b (h.ZJ hB)] at hh;exact h.soft b c T lo hi hB hh
def View (Γ : Nat→List AV) (s : AS) (a b : AV) : Prop:=∀ G w u,aN Γ G s w→au G a u→au (G0 w) b u
def xcc (Γ : Nat→List AV) (s : AS) (as bs : List AV) : Prop:=∀ G w us,aN Γ G s w→aq G as us→aq (G0 w) bs us
theorem aN.cut {o : Nat} {ds r : List AV} (h : aN Γ G (s.set o (ds ++ r)) w) : aN Γ G (s.set o ds) w where
  ro:=h.ro
  av o' cs hc:=by
    by_cases e : o' = o
    · subst e;simp [AS.set] at hc;subst hc;obtain ⟨b,vs,h1,h2,h3,h4⟩:=h.av o' (ds ++ r) (by simp [AS.set]);refine ⟨b,vs.take ds.length,h1,?_,h3,fun j u hj=>h4 j u ?_⟩
      · have:=h2.take ds.length;rwa [List.take_left] at this
      · rw [List.getElem?_take] at hj;split at hj
        · exact hj
        · cases hj
    · exact h.av o' cs (by simpa [AS.set,aF,e] using hc)
  cK:=h.cK;inj:=h.inj;own:=h.own;cx:=h.cx;bJ:=h.bJ;cn:=h.cn;bU:=h.bU;below:=h.below;others:=h.others;base:=h.base;gA:=h.gA;soft:=h.soft
theorem tm {y : AV} {u v : Value} {m : Nat} {ds : List AV} {T xT e : TypeId} {z : List AV} (hT : P.underlying T = some (.slice e)) (hx : jY P (some xT) = true) (he : ou P e z)
    (et : im (P.cellsOf e) s y = some (m,ds)) (hm : m≠0) (h1 : m * P.bytesOf e≤2 ^ 46) (h2 : m≤2 ^ 46) (og : au G (.sl (P.cellsOf e) 0 [] .new) u) (vm : au G y v) (hs : aN Γ G s w) (ty : TypeId) :
    ∃ G' z w' o cap,(Builtin.append_ #[T,xT] ty #[u,v]).run P w = .ok z w'∧G.le G'∧s.av o = none∧m≤cap∧aN Γ G' (s.set o ds) w'∧au G' (.iv o 0 (P.cellsOf e) m cap) z:=by
  obtain ⟨us,hv,hlen,iH,eZ⟩:=qx (P:=P) et vm hs;simp only [au] at og;rcases og with ⟨b,off,cap,vs,rfl,hl,A9,Er,pn,qv⟩ | ⟨_,_,a,cap,rfl,wv⟩ | ⟨_,_,hn,_⟩
  · simp only [dY] at qv;obtain ⟨rfl,_⟩:=qv;obtain ⟨j9,rest,vP,yE,kD⟩:=gJ (P:=P) (w:=w) iH hT hx he (base:=some ⟨b,off,none⟩) (n:=0) (cap:=0) (olds:=[]) (news:=us)
      (fun w' _=>run_firstCells_some w' _ _ _ _ _ [] (by simp) (by simp)) eZ (by omega) (by simpa using h1) (by simpa using h2) ty
    simp only [Nat.zero_add,List.nil_append] at vP yE kD;obtain ⟨o,k1,k2,k3,k4⟩:=hs.drew.newObj (cs:=ds ++ rest.map .v) (vs:=us ++ rest) (hv.append (aq.Cy rest)) e;refine ⟨_,_,_,o,j9,kD,k2,k1,vP,k3.cut,?_⟩;simp only [au];exact ⟨_,k4,rfl,vP⟩
  · rcases wv with h | h | ⟨h,_⟩ <;> cases h
  · cases hn
theorem dG {N : Nat} {ops : Array Oper} {Q : Exit→Act→World→Prop} {K : Env→AS→Prop} : ∀ (L : List Oper) (I J : List Nat) {G : Gh} {E : Env} {s : AS} {a : Act} {w : World},I.map (ops[·]?) = L.map some→AX P Γ N ops L K E s→Rel Γ N G E s a w →
    (∀ G' E' s' a' w',G.le G'→Rel Γ N G' E' s' a' w'→K E' s'→wpOpsIn (te rd) 0 P ops Q J a' w')→wpOpsIn (te rd) 0 P ops Q (I ++ J) a w
  | [],I,J,G,E,s,a,w,hI,h,hr,hq=>by
    have : I = []:=(by simpa using hI);subst this;exact hq G E s a w (.refl G) hr h
  | o :: L,I,J,G,E,s,a,w,hI,h,hr,hq=>by
    cases I with
    | nil=>simp at hI
    | cons i I =>
      simp only [List.map_cons,List.cons.injEq] at hI;rw [List.cons_append,wpOpsIn_cons];exact iS hI.1 h hr fun G' E' s' a' w' h1 h2 h3=>dG L I J hI.2 h3 h2 fun uB jq iq yH vn k1 k2 k3=>hq uB jq iq yH vn (h1.trans k1) k2 k3
theorem yN {N : Nat} {E : Env} {Q : Exit→Env→AS→Prop} {id : Nat} {o1 o2 o3 o4 : Oper} {x y : Operand} {T xT e : TypeId} {z : List AV} {d : Tmp} {code : Code}
    (ho : o3.op = .call { callee:=.builtin .append,args:=#[x,y],argTypes:=#[T,xT] }) (hg : o3.guard = none) (hd : o3.dst = some d) (hN : d < N)
    (hT : P.underlying T = some (.slice e)) (hx : jY P (some xT) = true) (hz : bg P e = some z) (hc : P.cellsOf e≠0) (rD : z.length = P.cellsOf e)
    (h : AY P Γ N #[o1,o2,o3,o4] [o1,o2] (fun E1 s1=>aL Γ E1 x = .sl (P.cellsOf e) 0 [] .new∧∃ m ds,im (P.cellsOf e) s1 (aL Γ E1 y) = some (m,ds)∧m≠0∧m * P.bytesOf e≤2 ^ 46∧m≤2 ^ 46 ∧
      ∀ ob cap,s1.av ob = none→m≤cap→AY P Γ N #[o1,o2,o3,o4] [o4] (fun E' s'=>ch P Γ N code Q E' s') (aF E1 d (.iv ob 0 (P.cellsOf e) m cap)) (s1.set ob ds)) E s) :
    ch P Γ N (.seq (.region id #[o1,o2,o3,o4] false) code) Q E s:=by
  rw [ay] at h;refine ke ?_;intro G a w hr;refine wpIn_region ?_;have QK : List.range (#[o1,o2,o3,o4] : Array Oper).size = [0,1] ++ [2,3]:=(by simp; decide);rw [QK];refine dG [o1,o2] [0,1] [2,3] (by simp) (dy _ h) hr ?_;rintro G1 E1 s1 a1 w1 gl pZ ⟨⟨Z1,m,ds,et,hm,Dj,I0,hk⟩,Bm⟩;rw [wpOpsIn_cons];have gC : (#[o1,o2,o3,o4] : Array Oper)[2]? = some o3:=(by simp);simp only [wpOpIn,gC];rw [if_pos (dI hg)];have og:=pZ.eval x;rw [Z1] at og;obtain ⟨G2,z2,w2,ob,cap,q1,q2,q3,q4,q5,q6⟩:=tm hT hx ⟨hz,hc,rD⟩ et hm Dj I0 og (pZ.eval y) pZ.st o3.type;refine Oper.mh (K:=fun r s'=>r = .iv ob 0 (P.cellsOf e) m cap∧s' = s1.set ob ds) pZ (fun d' Tx=>by rw [hd] at Tx; cases Tx; exact hN) ?_ ?_
  · rw [cN ho];simp only [builtin];exact dt ⟨G2,z2,w2,_,_,by simpa using q1,q2,q5,q6,rfl,rfl⟩
  · rintro G3 r s3 a3 w3 O5 p5 ⟨rfl,rfl⟩;rw [hd] at p5;have hl:=dy _ (hk ob cap q3 q4);refine kG [o4] [3] (by simp) hl p5 ?_;rintro G4 E4 s4 a4 w4 Tz Cs ⟨QL,Jj⟩;refine ⟨G4,E4,s4,gl.trans (O5.trans Tz),Cs,QL,?_⟩;intro i hi;have mem : ∀ L : List Oper,i ∈ ct L↔∃ o ∈ L,o.dst = some i:=(fun L=>by simp [ct,List.mem_filterMap]);have aX : ¬ ∃ o ∈ [o1,o2,o3,o4],o.dst = some i:=fun hm=>hi ((mem [o1,o2,o3,o4]).2 hm);have h3 : i ∉ ct [o4]:=fun hm=>aX (by obtain ⟨o,k1,k2⟩:=(mem _).1 hm; exact ⟨o,by simp at k1; simp [k1],k2⟩);have h1 : i ∉ ct [o1,o2]:=fun hm=>aX (by obtain ⟨o,k1,k2⟩:=(mem _).1 hm; exact ⟨o,by simp at k1; rcases k1 with k1 | k1 <;> simp [k1],k2⟩);have h2 : i≠d:=fun e=>aX ⟨o3,by simp,by rw [e]; exact hd⟩;rw [Jj i h3];simp only [bu,aF,if_neg h2];exact Bm i h1
end Go.AM
namespace Go.AM
open Go Go.RowKit
theorem ai.anyS {P : Program} {Γ : Nat→List AV} {f : FuncId} {post : List AV} {sz n : Nat} {cs : List AV} {s : AS} {Q : AV→AS→Prop} (h0 : n = 0→cs = []→ai P Γ f (bO :: post) s Q) (h1 : ai P Γ f (.sl sz n cs .no :: post) s Q) :
    ai P Γ f (.sl sz n cs .any :: post) s Q:=by
  intro G w vs hs hv;simp only [aq] at hv;obtain ⟨u,us,rfl,k1,k2⟩:=hv;rcases au.any k1 with ⟨h3,h5,h4⟩ | h3
  · exact h0 h3 h5 G w _ hs (by simp only [aq]; exact ⟨u,us,rfl,h4,k2⟩)
  · exact h1 G w _ hs (by simp only [aq]; exact ⟨u,us,rfl,h3,k2⟩)
end Go.AM
