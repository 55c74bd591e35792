/- An abstract machine for the model and the rules of its walk, each proved sound over the model; no condition. -/
import Derived.Test.YtbiefppedlodiaaGreatDoorAMp4
set_option linter.unusedSimpArgs false
set_option linter.unusedVariables false
namespace Go.AM
open Go Go.RowKit
theorem ff1(a:Bool):(a=false)∨(a=true):=by cases a<;>simp
theorem ff2(a b:Bool):(a=false)∨(a=true∧b=false)∨(a=true∧b=true):=by
  cases a
  · exact .inl rfl
  · rcases ff1 b with h|h
    · exact .inr (.inl ⟨rfl,h⟩)
    · exact .inr (.inr (⟨rfl,h⟩))
theorem ff3(a b c:Bool):(a=false)∨(a=true∧b=false)∨(a=true∧b=true∧c=false)∨(a=true∧b=true∧c=true):=by
  cases a
  · exact .inl rfl
  · rcases ff2 b c with h|h|h
    · exact .inr (.inl ⟨rfl,h⟩)
    · exact .inr (.inr (.inl ⟨rfl,h⟩))
    · exact .inr (.inr (.inr (⟨rfl,h⟩)))
theorem ff4(a b c d:Bool):(a=false)∨(a=true∧b=false)∨(a=true∧b=true∧c=false)∨(a=true∧b=true∧c=true∧d=false)∨(a=true∧b=true∧c=true∧d=true):=by
  cases a
  · exact .inl rfl
  · rcases ff3 b c d with h|h|h|h
    · exact .inr (.inl ⟨rfl,h⟩)
    · exact .inr (.inr (.inl ⟨rfl,h⟩))
    · exact .inr (.inr (.inr (.inl ⟨rfl,h⟩)))
    · exact .inr (.inr (.inr (.inr (⟨rfl,h⟩))))
theorem ff5(a b c d e:Bool):(a=false)∨(a=true∧b=false)∨(a=true∧b=true∧c=false)∨(a=true∧b=true∧c=true∧d=false)∨(a=true∧b=true∧c=true∧d=true∧e=false)∨(a=true∧b=true∧c=true∧d=true∧e=true):=by
  cases a
  · exact .inl rfl
  · rcases ff4 b c d e with h|h|h|h|h
    · exact .inr (.inl ⟨rfl,h⟩)
    · exact .inr (.inr (.inl ⟨rfl,h⟩))
    · exact .inr (.inr (.inr (.inl ⟨rfl,h⟩)))
    · exact .inr (.inr (.inr (.inr (.inl ⟨rfl,h⟩))))
    · exact .inr (.inr (.inr (.inr (.inr (⟨rfl,h⟩)))))
theorem tt1(a:Bool):(a=true)∨(a=false):=by cases a<;>simp
theorem tt2(a b:Bool):(a=true)∨(a=false∧b=true)∨(a=false∧b=false):=by
  cases a
  · rcases tt1 b with h|h
    · exact .inr (.inl ⟨rfl,h⟩)
    · exact .inr (.inr (⟨rfl,h⟩))
  · exact .inl rfl
theorem tt3(a b c:Bool):(a=true)∨(a=false∧b=true)∨(a=false∧b=false∧c=true)∨(a=false∧b=false∧c=false):=by
  cases a
  · rcases tt2 b c with h|h|h
    · exact .inr (.inl ⟨rfl,h⟩)
    · exact .inr (.inr (.inl ⟨rfl,h⟩))
    · exact .inr (.inr (.inr (⟨rfl,h⟩)))
  · exact .inl rfl
theorem tt4(a b c d:Bool):(a=true)∨(a=false∧b=true)∨(a=false∧b=false∧c=true)∨(a=false∧b=false∧c=false∧d=true)∨(a=false∧b=false∧c=false∧d=false):=by
  cases a
  · rcases tt3 b c d with h|h|h|h
    · exact .inr (.inl ⟨rfl,h⟩)
    · exact .inr (.inr (.inl ⟨rfl,h⟩))
    · exact .inr (.inr (.inr (.inl ⟨rfl,h⟩)))
    · exact .inr (.inr (.inr (.inr (⟨rfl,h⟩))))
  · exact .inl rfl
theorem tt5(a b c d e:Bool):(a=true)∨(a=false∧b=true)∨(a=false∧b=false∧c=true)∨(a=false∧b=false∧c=false∧d=true)∨(a=false∧b=false∧c=false∧d=false∧e=true)∨(a=false∧b=false∧c=false∧d=false∧e=false):=by
  cases a
  · rcases tt4 b c d e with h|h|h|h|h
    · exact .inr (.inl ⟨rfl,h⟩)
    · exact .inr (.inr (.inl ⟨rfl,h⟩))
    · exact .inr (.inr (.inr (.inl ⟨rfl,h⟩)))
    · exact .inr (.inr (.inr (.inr (.inl ⟨rfl,h⟩))))
    · exact .inr (.inr (.inr (.inr (.inr (⟨rfl,h⟩)))))
  · exact .inl rfl
theorem tt6(a b c d e f:Bool):(a=true)∨(a=false∧b=true)∨(a=false∧b=false∧c=true)∨(a=false∧b=false∧c=false∧d=true)∨(a=false∧b=false∧c=false∧d=false∧e=true)∨(a=false∧b=false∧c=false∧d=false∧e=false∧f=true)∨(a=false∧b=false∧c=false∧d=false∧e=false∧f=false):=by
  cases a
  · rcases tt5 b c d e f with h|h|h|h|h|h
    · exact .inr (.inl ⟨rfl,h⟩)
    · exact .inr (.inr (.inl ⟨rfl,h⟩))
    · exact .inr (.inr (.inr (.inl ⟨rfl,h⟩)))
    · exact .inr (.inr (.inr (.inr (.inl ⟨rfl,h⟩))))
    · exact .inr (.inr (.inr (.inr (.inr (.inl ⟨rfl,h⟩)))))
    · exact .inr (.inr (.inr (.inr (.inr (.inr (⟨rfl,h⟩))))))
  · exact .inl rfl
def gE.aE(a b:List AV):Prop:=∀G v,ar G a v→ar G b v
theorem gE.aE.nil:gE.aE [] []:=fun _ _ h=>h
theorem gE.aE.refl(a:List AV):gE.aE a a:=fun _ _ h=>h
theorem gE.aE.cons{x y:AV}{xs ys:List AV}(h:x.aE y)(k:gE.aE xs ys):gE.aE (x::xs) (y::ys):=by
  intro G v hv;simp only[ar] at hv⊢;obtain⟨u,us,rfl,h1,h2⟩:=hv;exact⟨u,us,rfl,h G u h1,k G us h2⟩
theorem AV.pE{xs ys:List AV}(h:gE.aE xs ys):(AV.agg xs).aE (.agg ys):=by
  intro G v hv;simp only[av] at hv⊢;obtain⟨vs,rfl,h1⟩:=hv;exact⟨vs,rfl,h G vs h1⟩
theorem aj.gF{P:Program}{Γ:Nat→List AV}{f:FuncId}{args Q3:List AV}{s:AS}{Q:AV→AS→Prop}(h:gE.aE args Q3)(k:aj P Γ f Q3 s Q):aj P Γ f args s Q:=
  fun G w vs hs hv=>k G w vs hs (h G vs hv)
end Go.AM
namespace Go.AM
open Go Go.RowKit
variable{P:Program}{Γ:Nat→List AV}
theorem eE.lA{N:Nat}{E:Env}{s:AS}{d o:Nat}{cs:List AV}(hE:E d=.ptr o 0)(ho:s.aw o=some cs):
    eE Γ N E s (aB E d (.cN cs)) (s.drop o):=by
  intro G a w hr;obtain⟨b,vs,h1,h2,h3,h4,h5⟩:=hr.st.freeze ho;refine⟨_,h3,h5,hr.size,fun i=>?_,hr.defers.trans h3.df.symm⟩;simp only[aB];split
  · rename_i e;subst e;have:=hr.tmps i;rw[hE] at this;simp only[av] at this;obtain⟨b',k1,k2⟩:=this;rw[h1] at k1;cases k1;rw[k2];simp only[av];exact⟨b,0,vs,rfl,ar.mono h3 _ _ h2,h4⟩
  · exact av.mono h3 _ _ (hr.tmps i)
theorem AS.drop_set{s:AS}{o:Nat}(ho:s.aw o=none)(cs:List AV):(s.set o cs).drop o=s:=by
  cases s with
  |mk aw own=>
    simp only[AS.set,AS.drop,AS.mk.injEq,and_true];funext i;simp only[aB];split
    · rename_i e;subst e;exact ho.symm
    · rfl
theorem aX{N:Nat}{E:Env}{s:AS}{Q:Exit→Env→AS→Prop}(d:Nat){id:Nat}{L:List Oper}{y:Code}(hd:d∈cC L)
    (h:∀K:Env→AS→Prop,(∀E s o cs,E d=.ptr o 0→s.aw o=none→ct P Γ N y Q (aB E d (.cN cs)) s→K E (s.set o cs))→AY P Γ N L.toArray L K E s):ct P Γ N (.seq (.region id L.toArray false) y) Q E s:=by
  refine lh (jl ?_);have:=h (fun E' s'=>∃ji ic,eE Γ N E' s' ji ic∧(∀i,i∉cC L→ji i=E' i)∧aA (ct P Γ N y Q) Q .normal ji ic) ?_
  · rw[ay] at this;simpa using this
  · intro E' s' o cs h1 h2 h3;refine⟨aB E' d (.cN cs),s',?_,?_,h3⟩
    · have:=eE.lA (Γ:=Γ) (N:=N) (E:=E') (s:=s'.set o cs) (d:=d) h1 (AS.af _ _ _);rwa [AS.drop_set h2] at this
    · intro i hi;exact gQ _ _ (fun e=>hi (e ▸ hd))
end Go.AM
namespace Go.AM
open Go Go.RowKit
variable{P:Program}{Γ:Nat→List AV}
abbrev xhx(st:kn):List AV:=[al st.1 .any,.v (.int .i64 st.2)]
abbrev xec(st:kn):List AV:=[.v (.string ⟨st.1.toArray⟩),.v (.int .i64 st.2)]
theorem aj.forget{f:FuncId}{args:List AV}{s:AS}{Q R:AV→AS→Prop}(h:aj P Γ f args s Q)(k:∀r s',Q r s'→∃ic,ic.le s'∧R r ic):aj P Γ f args s R:=by
  intro G w vs hs hv;refine(h G w vs hs hv).mono ?_;rintro e w' ⟨G',r,v,s',h1,h2,h3,h4,h5⟩;obtain⟨ic,k1,k2⟩:=k r s' h5;exact⟨G',r,v,ic,h1,h2,h3.mono k1,h4,k2⟩
theorem AS.ao(s:AS){o p:Nat}(h:p≠o)(cs:List AV):(s.set o cs).aw p=s.aw p:=by simp[AS.set,aB,h]
theorem AS.ff{s:AS}{o p:Nat}{cs:List AV}(h:(s.set o cs).aw p=none):p≠o∧s.aw p=none:=by
  by_cases e:p=o
  · subst e;simp[AS.set] at h
  · exact⟨e,by simpa[AS.set,aB,e] using h⟩
theorem lQ{E:Env}{s:AS}{ca:AV→AS→Prop}{a T t o off:Nat}{cs:List AV}{v:AV}(h1:E a=.ptr o off)(h2:s.aw o=some cs)(h3:P.cellsOf T≠0)(h4:oC P T (cs.drop off)=some v)
    (h:∃r s',(AV.eu [v,E t]).aE r∧s'.le s∧ca r s'):ck P [.cell a T,.tmp t] ca .ret E s:=by
  simp only[ck,bz,bF,dm,h1,h2,if_neg h3,h4];exact h
theorem eQ{E:Env}{s:AS}{ca:AV→AS→Prop}{a T o off:Nat}{cs:List AV}{v:AV}(h1:E a=.ptr o off)(h2:s.aw o=some cs)(h3:P.cellsOf T≠0)(h4:oC P T (cs.drop off)=some v)
    (h:∃r s',v.aE r∧s'.le s∧ca r s'):ck P [.cell a T] ca .ret E s:=by
  simp only[ck,bz,bF,dm,h1,h2,if_neg h3,h4];exact h
theorem AS.OD(s:AS){p o:Nat}(h:p≠o)(a b c:List AV):((s.set p a).set o b).set p c=(s.set p c).set o b:=by
  simp only[AS.set,AS.mk.injEq,and_true];funext i;simp only[aB];by_cases h1:i=p
  · subst h1;simp[h]
  · simp[h1]
end Go.AM
namespace Go.AM
open Go Go.RowKit
theorem fy{a b:Ty}{gD:List AV}(h:KM (.cons a b) gD):∃x y,gD=x++y∧ed a x∧KM b y:=by simpa only[KM] using h
theorem HZ{gD:List AV}(h:KM .nil gD):gD=[]:=by simpa only[KM] using h
theorem vO{b:Ty}{gD:List AV}(h:ed (.struct b) gD):KM b gD:=by simpa only[ed] using h
theorem pF{k:IntKind}{gD:List AV}(h:ed (.int k) gD):∃n,gD=[.v (.int k n)]∧(Lit.int k n).wf=true:=by simpa only[ed] using h
abbrev Bb:Ty:=.slice 1 (.int .u8)
abbrev Cg:Ty:=.int .i64
end Go.AM
namespace Go.AM
open Go Go.RowKit
variable{rd:Option Nat}{P:Program}{Γ:Nat→List AV}{G:Gh}{s:AS}{w:World}
abbrev Fz:=List (Nat×List AV)
def kJ(F:Fz)(s:AS):Prop:=∀x∈F,s.aw x.1=some x.2
def vP(F:Fz)(o:Nat):Option (List AV):=(F.find? (fun x=>x.1==o)).map (·.2)
theorem Gu{F:Fz}{s:AS}(h:kJ F s){o:Nat}{cs:List AV}(hg:vP F o=some cs):s.aw o=some cs:=by
  unfold vP at hg;rw[Option.map_eq_some_iff] at hg;obtain⟨x,h1,rfl⟩:=hg;have h2:=List.mem_of_find?_eq_some h1;have h3:=List.find?_some h1;simp only[beq_iff_eq] at h3;rw[←h3];exact h x h2
def dt(P:Program)(F:Fz)(ρ:Operand→AV)(op:Op):Option AV:=
  match op with
  |.load T x=>match ρ x with
    |.ptr o off=>match vP F o with
      |some cs=>if P.cellsOf T=0 then none else oC P T (cs.drop off)
      |none=>none
    |_=>none
  |_=>none
theorem Gv{F:Fz}{ρ ρ':Operand→AV}{op:Op}(h:∀x∈op.operands,ρ x=ρ' x):dt P F ρ op=dt P F ρ' op:=by
  cases op<;>simp only[dt];case load T x=>rw[h x (by simp[Op.operands])]
section
variable{N:Nat}{ops:Array Oper}
def dx(ops:Array Oper)(o:Oper)(E:Env)(v:Option AV):Option AV:=
  match o.guard with
  |none=>v
  |some (j,want)=>
    match nO ops j with
    |none=>none
    |some d=>
      match E d with
      |.v (.bool t)=>if t=want then v else some (.v undef)
      |.v (.tuple _)=>some (.v undef)
      |_=>none
def qX(P:Program)(Γ:Nat→List AV)(ops:Array Oper)(F:Fz)(m:Nat)(o:Oper)(E:Env):Option AV:=
  dx ops o E (if m=1 then dt P F (aN Γ E) o.op else cL P (aN Γ E) o.op)
theorem mF{F:Fz}{m:Nat}{o:Oper}{E E':Env}(h:∀d,d∈o.looksAt ops→E' d=E d):qX P Γ ops F m o E'=qX P Γ ops F m o E:=by
  have ib:∀x∈o.op.operands,aN Γ E' x=aN Γ E x:=fun x hx=>by
    cases x with
    |tmp t=>exact h t (List.mem_append_left _ (List.mem_filterMap.2 ⟨.tmp t,by simpa using hx,rfl⟩))
    |const v=>rfl
    |global g=>rfl
    |func f=>rfl
  unfold qX;rw[Gv ib,nQ ib];unfold dx;split
  · rfl
  · rename_i j want hg;split
    · rfl
    · rename_i d hj;have :E' d=E d:=h d (by
        by_cases hd:d∈o.looksAt ops
        · exact hd
        · exact absurd hj (mC hd hg))
      rw[this]
def ja(L:List (Oper×Nat)):Bool:=L.any fun x=>x.2==1
def pj(P:Program)(Γ:Nat→List AV)(N:Nat)(ops:Array Oper)(F:Fz):List (Oper×Nat)→(Env→AS→Prop)→Env→AS→Prop
  |[],K,E,s=>K E s
  |(o,m)::rest,K,E,s=>
    if m≤1 then(∀d,o.dst=some d→d<N)∧match qX P Γ ops F m o E with |some v=>pj P Γ N ops F rest K (bw E o.dst v) s|none=>False
    else AX P Γ N ops [o] (fun E' s'=>((m=2∨ja rest=true)→kJ F s')∧pj P Γ N ops F rest K E' s') E s
theorem ti{F:Fz}:∀(L:List (Oper×Nat)){K K':Env→AS→Prop}{E:Env}{s:AS},(∀E s,K E s→K' E s)→pj P Γ N ops F L K E s→pj P Γ N ops F L K' E s
  |[],K,K',E,s,hk,h=>hk _ _ h
  |(o,m)::L,K,K',E,s,hk,h=>by
    simp only[pj] at h⊢;split at h
    · rename_i he;rw[if_pos he];refine⟨h.1,?_⟩;have h:=h.2;split at h
      · exact ti L hk h
      · exact h
    · rename_i he;rw[if_neg he];exact cW _ (fun E s h=>⟨h.1,ti L hk h.2⟩) h
theorem jo{x:Oper×Nat}{L:List (Oper×Nat)}:ja (x::L)=((x.2==1)||ja L):=rfl
theorem nS{L M:List (Oper×Nat)}:ja (L++M)=(ja L||ja M):=by simp[ja]
theorem KR{F:Fz}{o:Oper}{m:Nat}{L:List (Oper×Nat)}{E:Env}{K:Env→AS→Prop}(hp:ja ((o,m)::L)=true→kJ F s)(h:pj P Γ N ops F ((o,m)::L) K E s):
    AX P Γ N ops [o] (fun E' s'=>(ja L=true→kJ F s')∧pj P Γ N ops F L K E' s') E s:=by
  have Q4:ja L=true→kJ F s:=fun h=>hp (by rw[jo,h,Bool.or_true]);simp only[pj] at h;split at h
  · rename_i hm;have core:∀v,(if m=1 then dt P F (aN Γ E) o.op else cL P (aN Γ E) o.op)=some v→pj P Γ N ops F L K (bw E o.dst v) s→
        cc P Γ (aN Γ E) s (fun r s'=>(ja L=true→kJ F s')∧pj P Γ N ops F L K (bw E o.dst r) s') o.op:=by
      intro v hv hK;by_cases h1:m=1
      · rw[if_pos h1] at hv;have hP:kJ F s:=hp (by rw[jo];simp[h1]);cases ib:o.op<;>rw[ib] at hv<;>simp only[dt] at hv<;>try(cases hv;done)
        rename_i T x;cases hx:aN Γ E x<;>rw[hx] at hv<;>simp only at hv<;>try(cases hv;done)
        rename_i ob off;cases hg:vP F ob with
        |none=>rw[hg] at hv;cases hv
        |some cs=>
          rw[hg] at hv;simp only at hv;split at hv
          · cases hv
          · rename_i hc;have ha:cL P (aN Γ E) (.load T x)=none:=(by simp only[cL,hx]);simp only[cc,ha,nR,hx,Gu hP hg,hv];exact⟨hc,Q4,hK⟩
      · rw[if_neg h1] at hv;simp only[cc,hv];exact⟨Q4,hK⟩
    simp only[AX];refine⟨h.1,?_⟩;have h:=h.2;unfold qX dx at h;cases hg:o.guard with
    |none=>
      simp only[hg] at h;split at h
      · rename_i v hv;exact core v hv h
      · exact h.elim
    |some p=>
      obtain⟨j,want⟩:=p;simp only[hg] at h;cases hj:nO ops j with
      |none=>simp[hj] at h
      |some d=>
        simp only[hj] at h⊢;split
        · rename_i t hE;simp only[hE] at h;split
          · rename_i ht;simp only[if_pos ht] at h;split at h
            · rename_i v hv;exact core v hv h
            · exact h.elim
          · rename_i ht;simp only[if_neg ht] at h;exact⟨Q4,h⟩
        · rename_i c hE;simp only[hE] at h;exact⟨Q4,h⟩
        · rename_i cY D3;split at h
          · rename_i v hv;split at hv
            · rename_i t hE;exact absurd hE (cY t)
            · rename_i c hE;exact absurd hE (D3 c)
            · cases hv
          · exact h
  · exact cW _ (fun E' s' hE=>⟨fun hn=>hE.1 (.inr hn),hE.2⟩) h
theorem yc{F:Fz}{y:Oper}{m:Nat}(hm:m≤1){L2:List (Oper×Nat)}{K:Env→AS→Prop}:∀(L1:List (Oper×Nat)){G:Gh}{E:Env}{s:AS}{a:Act}{w:World},(∀x∈L1,ft ops x.1 y)→(ja (L1++(y,m)::L2)=true→kJ F s)→pj P Γ N ops F (L1++(y,m)::L2) K E s→Rel Γ N G E s a w→
    (∀d,y.dst=some d→d<N)∧∃v,qX P Γ ops F m y E=some v
  |[],G,E,s,a,w,_,hp,h,hr=>by
    simp only[List.nil_append,pj,if_pos hm] at h;refine⟨h.1,?_⟩;have h:=h.2;split at h
    · rename_i v hv;exact⟨v,hv⟩
    · exact h.elim
  |(x,ex)::L1,G,E,s,a,w,lM,hp,h,hr=>by
    obtain⟨G',E',s',a',w',B8,hK,hf⟩:=mD (KR hp h) hr;obtain⟨h1,v,h2⟩:=yc hm L1 (fun x hx=>lM x (List.mem_cons_of_mem _ hx)) hK.1 hK.2 B8;refine⟨h1,v,?_⟩;rw[←h2];refine(mF fun d hd=>hf d fun e=>?_).symm;exact(Oper.apart_spec (lM (x,ex) (by simp))).1 d e hd
theorem lR{F:Fz}{y:Oper}{m:Nat}(hm:m≤1){L2:List (Oper×Nat)}{K:Env→AS→Prop}{v:AV}:∀(L1:List (Oper×Nat)){E:Env}{s:AS},(∀x∈L1,ft ops x.1 y)→qX P Γ ops F m y E=some v→pj P Γ N ops F (L1++(y,m)::L2) K E s→
    pj P Γ N ops F (L1++L2) K (bw E y.dst v) s
  |[],E,s,_,hv,h=>by
    simp only[List.nil_append,pj,if_pos hm,hv] at h;exact h.2
  |(x,ex)::L1,E,s,lM,hv,h=>by
    obtain⟨a1,a2,a3⟩:=Oper.apart_spec (lM (x,ex) (by simp));have qF:∀x∈L1,ft ops x.1 y:=fun x hx=>lM x (List.mem_cons_of_mem _ hx);have Q0:∀E':Env,(∀i,x.dst≠some i→E' i=E i)→qX P Γ ops F m y E'=some v:=fun E' hE=>by
      rw[mF (E:=E) fun d hd=>hE d fun e=>a1 d e hd,hv]
    simp only[List.cons_append,pj] at h⊢;split at h
    · rename_i he;rw[if_pos he];refine⟨h.1,?_⟩;have h:=h.2;rw[mF (E:=E) fun d hd=>cG fun e=>a3 d e hd];split at h
      · rename_i u hu;simp only[hu];rw[ql (fun d h1 h2=>a2 d h2 h1)];exact lR hm L1 qF (Q0 _ fun i hi=>cG hi) h
      · exact h.elim
    · rename_i he;rw[if_neg he];refine(uE (fun d hd=>a3 d hd) (fun d hd e=>a2 d e hd)).2 ?_;refine cW _ (fun E' s' hE=>?_) (dg h);refine⟨fun hn=>hE.1.1 (hn.imp id fun hn=>?_),lR hm L1 qF (Q0 E' hE.2) hE.1.2⟩;rw[nS] at hn⊢;rw[jo];simp only[Bool.or_eq_true] at hn⊢;rcases hn with hn|hn
      · exact .inl hn
      · exact .inr (.inr hn)
theorem qY{F:Fz}{y:Oper}{m:Nat}(hm:¬m≤1){L2:List (Oper×Nat)}{K:Env→AS→Prop}:∀(L1:List (Oper×Nat)){E:Env}{s:AS},(∀x∈L1,ft ops x.1 y∧x.2≤1∧(m≠2→x.2≠1))→pj P Γ N ops F (L1++(y,m)::L2) K E s→
    AX P Γ N ops [y] (fun E' s'=>((m=2∨ja (L1++L2)=true)→kJ F s')∧pj P Γ N ops F (L1++L2) K E' s') E s
  |[],E,s,_,h=>by simpa only[List.nil_append,pj,if_neg hm] using h
  |(x,ex)::L1,E,s,lM,h=>by
    obtain⟨KE,hex,hl⟩:=lM (x,ex) (by simp);simp only at hex hl;obtain⟨a1,a2,a3⟩:=Oper.apart_spec KE;have qF:∀x∈L1,ft ops x.1 y∧x.2≤1∧(m≠2→x.2≠1):=fun x hx=>lM x (List.mem_cons_of_mem _ hx);simp only[List.cons_append,pj,if_pos hex] at h;obtain⟨h0,h⟩:=h;split at h
    · rename_i v hv;have h1:=qY hm L1 qF h;have h2:=(uE (fun d hd=>a1 d hd) (fun d hd=>a2 d hd)).1 h1;refine cW _ (fun E' s' hE=>⟨?_,?_⟩) (dg h2)
      · intro hn;refine hE.1.1 ?_;by_cases h2:m=2
        · exact .inl h2
        · refine .inr ?_;rcases hn with hn|hn
          · exact absurd hn h2
          · rw[List.cons_append,jo] at hn;simpa[hl h2] using hn
      · simp only[List.cons_append,pj,if_pos hex];refine⟨h0,?_⟩;rw[mF (E:=E) fun d hd=>hE.2 d fun e=>a3 d e hd,hv];exact hE.1.2
    · exact h.elim
def fh(fl ld lx:List Nat)(i:Nat):Nat:=if ld.contains i then 1 else if fl.contains i then 2 else if lx.contains i then 3 else 0
def Es(ops:Array Oper)(D:List Nat)(mk:Nat→Nat):Bool:=
  (List.range ops.size).all fun j=>(List.range j).all fun i=>
    match ops[i]?,ops[j]? with
    |some x,some y=>(D.getD j 0).testBit i||(x.apart ops y&& !(decide (2≤mk i)&&decide (2≤mk j))&& !(mk i==1&&mk j==3))
    |_,_=>true
def tj(ops:Array Oper)(mk:Nat→Nat):Bool:=AQ ops (Region.before ops).toList&&Es ops (Region.before ops).toList mk
def eL(ops:Array Oper)(mk:Nat→Nat)(i:Nat):Oper×Nat:=((ops[i]?).getD default,mk i)
theorem Ch{F:Fz}{mk:Nat→Nat}(Gw:∀i,mk i≤3){Q:Exit→Act→World→Prop}{K:Env→AS→Prop}(iZ:tj ops mk=true):
    ∀(fuel:Nat)(listed:Array Bool){G:Gh}{E:Env}{s:AS}{a:Act}{w:World},listed.size=ops.size→(left ops listed).length≤fuel→
      (∀(i:Nat)(o:Oper),ops[i]? =some o→listed.getD i true=true→∀e∈o.after.toList,Region.binds .any e=true→listed.getD e.on false=true)→
      (ja ((left ops listed).map (eL ops mk))=true→kJ F s)→pj P Γ N ops F ((left ops listed).map (eL ops mk)) K E s→Rel Γ N G E s a w→
      (∀G' E' s' a' w',G.le G'→Rel Γ N G' E' s' a' w'→K E' s'→Q .normal a' w')→wpAnyIn (uD rd) 0 P .any ops Q fuel listed a w:=by
  simp only[tj,Bool.and_eq_true] at iZ
  obtain⟨zM,rK⟩:=iZ
  intro fuel
  have sW:∀(listed:Array Bool),Region.ready .any ops listed=[]→left ops listed=[]:=by
    intro listed h
    -- the first that is left could go
    cases hl:left ops listed with
    |nil=>rfl
    |cons i L=>
      exfalso
      have hi:i∈left ops listed:=by rw[hl];simp
      obtain⟨h1,h2⟩:=mem_left.1 hi
      have Ca:∀j,j<i→listed.getD j true=true:=by
        intro j hj
        cases Gd:listed.getD j true with
        |true=>rfl
        |false=>
          exfalso
          have HR:j∈left ops listed:=mem_left.2 ⟨by omega,Gd⟩
          have hs:(left ops listed).Pairwise (· < ·):=by
            unfold left
            exact List.Pairwise.filter _ List.pairwise_lt_range
          rw[hl] at hs HR
          rcases List.mem_cons.1 HR with rfl|HR
          · omega
          · have:=(List.pairwise_cons.1 hs).1 j HR
            omega
      have ho:ops[i]? =some ops[i]:=by simp[h1]
      have hr:i∈Region.ready .any ops listed:=by
        rw[mem_ready]
        refine⟨h2,_,ho,fun e he hb=>?_⟩
        have bJ:=(jj zM ho).2 e (by simpa using he) hb
        have:=Ca _ bJ
        -- both defaults agree where the place is there
        have fa:e.on<listed.size:=by
          rcases Nat.lt_or_ge e.on listed.size with h'|h'
          · exact h'
          · exfalso
            have :listed.getD i true=true:=by
              simp[Array.getElem?_eq_none (show listed.size≤i by omega)]
            rw[h2] at this;cases this
        simpa[fa] using this
      rw[h] at hr
      cases hr
  induction fuel with
  |zero=>
    intro listed G E s a w fa hlen gw hP h hr hq
    have hl:left ops listed=[]:=List.eq_nil_of_length_eq_zero (by omega)
    have kH:Region.ready .any ops listed=[]:=by
      cases Ox:Region.ready .any ops listed with
      |nil=>rfl
      |cons i L=>
        exfalso
        have :i∈Region.ready .any ops listed:=by rw[Ox];simp
        rw[mem_ready] at this
        obtain⟨h0,o,ho,_⟩:=this
        have :i∈left ops listed:=mem_left.2 ⟨(Array.getElem?_eq_some_iff.1 ho).1,h0⟩
        rw[hl] at this
        cases this
    rw[hl] at h
    exact⟨kH,hq G E s a w (.refl G) hr h⟩
  |succ fuel ih=>
    intro listed G E s a w fa hlen gw hP h hr hq
    refine⟨fun kH=>?_,fun i hi=>?_⟩
    · rw[sW listed kH] at h
      exact hq G E s a w (.refl G) hr h
    · obtain⟨h0,o,ho,bS⟩:=mem_ready.1 hi
      have zO:i<ops.size:=(Array.getElem?_eq_some_iff.1 ho).1
      obtain⟨L1,L2,q1,q2,q3⟩:=xH fa zO h0
      -- what comes before i is done
      have sX:∀(j:Nat)(oj:Oper),ops[j]? =some oj→(∀e∈oj.after.toList,Region.binds .any e=true→listed.getD e.on false=true)→∀l,((Region.before ops).toList.getD j 0).testBit l=true→listed.getD l false=true:=by
        intro j
        induction j using Nat.strongRecOn with
        |_ j Vl=>
          intro oj AR hj l hl
          obtain⟨d1,d2⟩:=jj zM AR
          obtain⟨e,he,hb,h1⟩:=d1 l hl
          have sD:=hj e he hb
          rcases h1 with rfl|h1
          · exact sD
          · have bJ:=d2 e he hb
            have Vm:e.on<ops.size:=by
              have:=(Array.getElem?_eq_some_iff.1 AR).1
              omega
            have D4:ops[e.on]? =some ops[e.on]:=by simp[Vm]
            refine Vl e.on bJ _ D4 (gw e.on _ D4 ?_) l h1
            have :e.on<listed.size:=by omega
            simpa[this] using sD
      have AU:∀x∈L1,ft ops ((ops[x]?).getD default) o∧¬(2≤mk x∧2≤mk i)∧¬(mk x=1∧mk i=3):=by
        intro x hx
        obtain⟨hxi,NW⟩:=q3 x hx
        unfold Es at rK
        rw[List.all_eq_true] at rK
        have h1:=rK i (by simpa using zO)
        rw[List.all_eq_true] at h1
        have h2:=h1 x (by simpa using hxi)
        have Vn:ops[x]? =some (ops[x]'(by omega)):=by simp
        rw[Vn,ho] at h2
        simp only[Bool.or_eq_true,Bool.and_eq_true,Bool.not_eq_true'] at h2
        rcases h2 with h2|⟨⟨h2,h3⟩,h4⟩
        · exfalso
          have:=sX i o ho (fun e he hb=>bS e (by simpa using he) hb) x h2
          have Vo:x<listed.size:=by omega
          simp[Vo] at this NW
          rw[NW] at this;cases this
        · refine⟨by rw[Vn];exact h2,fun hc=>?_,fun hc=>?_⟩
          · simp[hc.1,hc.2] at h3
          · simp[hc.1,hc.2] at h4
      have cz:∀{G':Gh}{E':Env}{s':AS}{a':Act}{w':World},G.le G'→(ja ((L1++L2).map (eL ops mk))=true→kJ F s')→pj P Γ N ops F ((L1++L2).map (eL ops mk)) K E' s'→Rel Γ N G' E' s' a' w'→wpAnyIn (uD rd) 0 P .any ops Q fuel (listed.setIfInBounds i true) a' w':=by
        intro G' E' s' a' w' hle hP' hA B8
        refine ih (listed.setIfInBounds i true) (by simpa using fa) ?_ ?_ (by rw[q2];exact hP') ?_ B8 (fun vF ji ic zJ wA k1 k2 k3=>hq vF ji ic zJ wA (hle.trans k1) k2 k3)
        · rw[q2]
          rw[q1] at hlen
          simp at hlen⊢
          omega
        · intro j oj AR hj e he hb
          by_cases FY:j=i
          · subst FY
            rw[ho] at AR;cases AR
            exact getD_set_true (bS e (by simpa using he) hb)
          · rw[getD_set_ne true (Ne.symm FY)] at hj
            exact getD_set_true (gw j oj AR hj e he hb)
        · rw[q2];exact hA
      rw[q1] at h hP
      simp only[List.map_append,List.map_cons] at h cz hP
      have ib:eL ops mk i=(o,mk i):=by simp[eL,ho]
      rw[ib] at h hP
      by_cases hf:mk i≤1
      · have lM:∀x∈L1.map (eL ops mk),ft ops x.1 o:=by
          intro x hx
          obtain⟨j,hj,rfl⟩:=List.mem_map.1 hx
          exact(AU j hj).1
        obtain⟨hd,v,hv⟩:=yc hf _ lM hP h hr
        have h1:=lR hf _ lM hv h
        have hX:pj P Γ N ops F ((o,mk i)::(L1.map (eL ops mk)++L2.map (eL ops mk))) K E s:=by
          simp only[pj,if_pos hf,hv]
          exact⟨hd,h1⟩
        have h2:=KR (fun hn=>hP (by
          rw[jo,nS] at hn
          rw[nS,jo]
          simp only[Bool.or_eq_true] at hn⊢
          rcases hn with hn|hn|hn
          · exact .inr (.inl hn)
          · exact .inl hn
          · exact .inr (.inr hn))) hX
        exact jZ (L:=[]) (K:=fun E s=>(ja (L1.map (eL ops mk)++L2.map (eL ops mk))=true→kJ F s)∧pj P Γ N ops F (L1.map (eL ops mk)++L2.map (eL ops mk)) K E s) ho h2 hr (fun G' E' s' a' w' k1 k2 k3=>cz k1 k3.1 k3.2 k2)
      · have lM:∀x∈L1.map (eL ops mk),ft ops x.1 o∧x.2≤1∧(mk i≠2→x.2≠1):=by
          intro x hx
          obtain⟨j,hj,rfl⟩:=List.mem_map.1 hx
          obtain⟨p1,p2,p3⟩:=AU j hj
          have FZ:=Gw i
          refine⟨p1,?_,fun h2 h3=>?_⟩
          · show mk j≤1
            omega
          · have h3:mk j=1:=h3
            omega
        have h2:=qY hf _ lM h
        exact jZ (L:=[]) (K:=fun E s=>((mk i=2∨ja (L1.map (eL ops mk)++L2.map (eL ops mk))=true)→kJ F s)∧pj P Γ N ops F (L1.map (eL ops mk)++L2.map (eL ops mk)) K E s) ho h2 hr (fun G' E' s' a' w' k1 k2 k3=>cz k1 (fun hn=>k3.1 (.inr hn)) k3.2 k2)
theorem uI{F:Fz}:∀(L:List (Oper×Nat)){K:Env→AS→Prop}{E:Env}{s:AS},pj P Γ N ops F L K E s→pj P Γ N ops F L (fun E' s'=>K E' s'∧∀i,i∉cC (L.map (·.1))→E' i=E i) E s
  |[],K,E,s,h=>⟨h,fun _ _=>rfl⟩
  |(o,m)::L,K,E,s,h=>by
    have jk:∀i,i∉cC (((o,m)::L).map (·.1))→i∉cC (L.map (·.1))∧o.dst≠some i:=by
      intro i hi;simp only[cC,List.map_cons,List.filterMap_cons] at hi;refine⟨fun hm=>hi ?_,fun e=>hi (by simp[e])⟩;simp only[cC] at hm;split
      · exact hm
      · exact List.mem_cons_of_mem _ hm
    simp only[pj] at h⊢;split at h
    · rename_i he;rw[if_pos he];refine⟨h.1,?_⟩;have h:=h.2;split at h
      · refine ti L (fun ji ic D5=>⟨D5.1,fun i hi=>?_⟩) (uI L h);obtain⟨m1,m2⟩:=jk i hi;rw[D5.2 i m1,cG m2]
      · exact h
    · rename_i he;rw[if_neg he];refine cW _ (fun E' s' hE=>⟨hE.1.1,?_⟩) (dg h);refine ti L (fun ji ic D5=>⟨D5.1,fun i hi=>?_⟩) (uI L hE.1.2);obtain⟨m1,m2⟩:=jk i hi;rw[D5.2 i m1,hE.2 i m2]
theorem wF{E:Env}{Q:Exit→Env→AS→Prop}(hm:P.follows .mixedOrders=true)(F:Fz)(mk:Nat→Nat)(Gw:∀i,mk i≤3){id:Nat}(iZ:tj ops mk=true)(hP:kJ F s)
    (h:pj P Γ N ops F ((List.range ops.size).map (eL ops mk)) (fun E' s'=>Q .normal E' s') E s):ct P Γ N (.region id ops true) Q E s:=by
  intro G a w hr;refine wpIn_region_any hm ?_;have D6:left ops (Array.replicate ops.size false)=List.range ops.size:=by
    unfold left;rw[List.filter_eq_self];intro i hi;have :i<ops.size:=(by simpa using hi);simp[this]
  have B8:Rel Γ N G E s a w.drew:=⟨hr.st.drew,hr.size,hr.tmps,hr.defers⟩;refine Ch Gw iZ ops.size (Array.replicate ops.size false) (by simp) (by rw[D6];simp) ?_ (fun _=>hP) (by rw[D6];exact uI _ h) B8 ?_
  · intro i o ho hl;have :i<ops.size:=(Array.getElem?_eq_some_iff.1 ho).1;simp[this] at hl
  · intro G' E' s' a' w' h1 h2 h3;refine⟨G',E',s',h1,h2,h3.1,fun i hi=>h3.2 i fun hm=>hi ?_⟩;have :((List.range ops.size).map (eL ops mk)).map (·.1)=ops.toList:=by
      apply List.ext_getElem?;intro j;simp only[List.getElem?_map];by_cases hj:j<ops.size
      · simp[hj,eL]
      · simp[hj]
    have Jk:i∈cC (((List.range ops.size).map (eL ops mk)).map (·.1)):=hm;rw[this] at Jk;exact Jk
end
end Go.AM
namespace Go.AM
open Go Go.RowKit
variable{P:Program}{Γ:Nat→List AV}{s:AS}
section
variable{N:Nat}{ops:Array Oper}
theorem Jp(fl ld lx:List Nat)(i:Nat):fh fl ld lx i≤3:=by
  unfold fh;split
  · omega
  · split
    · omega
    · split <;>omega
def Et(P:Program)(Γ:Nat→List AV)(N:Nat)(ops:Array Oper)(F:Fz)(fl ld lx:List Nat):Nat→List Oper→(Env→AS→Prop)→Env→AS→Prop
  |_,[],K,E,s=>K E s
  |k,o::rest,K,E,s=>
    if ld.contains k=true then(∀d,o.dst=some d→d<N)∧match dx ops o E (dt P F (aN Γ E) o.op) with |some v=>Et P Γ N ops F fl ld lx (k+1) rest K (bw E o.dst v) s|none=>False
    else if fl.contains k=true then AY P Γ N ops [o] (fun E' s'=>kJ F s'∧Et P Γ N ops F fl ld lx (k+1) rest K E' s') E s
    else if lx.contains k=true then AY P Γ N ops [o] (fun E' s'=>((ld.any fun i=>decide (k<i))=true→kJ F s')∧Et P Γ N ops F fl ld lx (k+1) rest K E' s') E s
    else(∀d,o.dst=some d→d<N)∧match dx ops o E (cL P (aN Γ E) o.op) with |some v=>Et P Γ N ops F fl ld lx (k+1) rest K (bw E o.dst v) s|none=>False
theorem iu{F:Fz}{fl ld lx:List Nat}:∀(L:List Oper)(k:Nat){K:Env→AS→Prop}{E:Env}{s:AS},(∀j o,L[j]? =some o→ops[k+j]? =some o)→Et P Γ N ops F fl ld lx k L K E s→
    pj P Γ N ops F ((List.range' k L.length).map (eL ops (fh fl ld lx))) K E s
  |[],k,K,E,s,_,h=>h
  |o::L,k,K,E,s,hL,h=>by
    have ho:ops[k]? =some o:=(by simpa using hL 0 o (by simp));have Q5:∀j o',L[j]? =some o'→ops[k+1+j]? =some o':=fun j o' hj=>by
      have:=hL (j+1) o' (by simpa using hj);rwa [show k+1+j=k+(j+1) from by omega]
    have ib:eL ops (fh fl ld lx) k=(o,fh fl ld lx k):=(by simp[eL,ho]);rw[List.length_cons,List.range'_succ,List.map_cons,ib];simp only[Et] at h;split at h
    · rename_i hl;have hm:fh fl ld lx k=1:=(by unfold fh;rw[if_pos hl]);rw[hm];simp only[pj,if_pos (Nat.le_refl 1)];refine⟨h.1,?_⟩;have h:=h.2;unfold qX;rw[if_pos rfl];split at h
      · rename_i v hv;first |(simp only[hv];exact iu L (k+1) Q5 h)|(rw[hv];exact iu L (k+1) Q5 h)|exact iu L (k+1) Q5 h
      · exact h.elim
    · rename_i hl;split at h
      · rename_i hf;have hm:fh fl ld lx k=2:=(by unfold fh;rw[if_neg hl,if_pos hf]);rw[hm];simp only[pj];rw[if_neg (by omega)];rw[ay] at h;exact cW _ (fun E' s' hE=>⟨fun _=>hE.1,iu L (k+1) Q5 hE.2⟩) h
      · rename_i hf;split at h
        · rename_i hx;have hm:fh fl ld lx k=3:=(by unfold fh;rw[if_neg hl,if_neg hf,if_pos hx]);rw[hm];simp only[pj];rw[if_neg (by omega)];rw[ay] at h;refine cW _ (fun E' s' hE=>⟨fun hn=>hE.1 ?_,iu L (k+1) Q5 hE.2⟩) h;rcases hn with hn|hn
          · omega
          · unfold ja at hn;rw[List.any_eq_true] at hn⊢;obtain⟨x,hx1,UF⟩:=hn;obtain⟨i,hi,rfl⟩:=List.mem_map.1 hx1;have hik:k+1≤i:=by
              rw[List.mem_range'] at hi;obtain⟨j,_,rfl⟩:=hi;omega
            have Gx:fh fl ld lx i=1:=(by simpa[eL] using UF);have hc:ld.contains i=true:=by
              unfold fh at Gx;split at Gx
              · assumption
              · split at Gx
                · omega
                · split at Gx<;>omega
            refine⟨i,by simpa using hc,by simp;omega⟩
        · rename_i hx;have hm:fh fl ld lx k=0:=(by unfold fh;rw[if_neg hl,if_neg hf,if_neg hx]);rw[hm];simp only[pj,if_pos (Nat.zero_le 1)];refine⟨h.1,?_⟩;have h:=h.2;unfold qX;rw[if_neg (by omega)];split at h
          · rename_i v hv;first |(simp only[hv];exact iu L (k+1) Q5 h)|(rw[hv];exact iu L (k+1) Q5 h)|exact iu L (k+1) Q5 h
          · exact h.elim
theorem KT:∃f:Program→(Nat→List AV)→Nat→Array Oper→Fz→List Nat→List Nat→List Nat→Nat→List Oper→(Env→AS→Prop)→Env→AS→Prop,f=Et:=⟨_,rfl⟩
noncomputable def OE:Program→(Nat→List AV)→Nat→Array Oper→Fz→List Nat→List Nat→List Nat→Nat→List Oper→(Env→AS→Prop)→Env→AS→Prop:=Classical.choose KT
theorem axr:OE=Et:=Classical.choose_spec KT
variable{F:Fz}{fl ld lx:List Nat}{k:Nat}{K:Env→AS→Prop}{E:Env}{o:Oper}{rest:List Oper}
theorem bt:OE P Γ N ops F fl ld lx k [] K E s=K E s:=by rw[axr];rfl
theorem a8:OE P Γ N ops F fl ld lx k (o::rest) K E s=
    if ld.contains k=true then(∀d,o.dst=some d→d<N)∧match dx ops o E (dt P F (aN Γ E) o.op) with |some v=>OE P Γ N ops F fl ld lx (k+1) rest K (bw E o.dst v) s|none=>False
    else if fl.contains k=true then AY P Γ N ops [o] (fun E' s'=>kJ F s'∧OE P Γ N ops F fl ld lx (k+1) rest K E' s') E s
    else if lx.contains k=true then AY P Γ N ops [o] (fun E' s'=>((ld.any fun i=>decide (k<i))=true→kJ F s')∧OE P Γ N ops F fl ld lx (k+1) rest K E' s') E s
    else(∀d,o.dst=some d→d<N)∧match dx ops o E (cL P (aN Γ E) o.op) with |some v=>OE P Γ N ops F fl ld lx (k+1) rest K (bw E o.dst v) s|none=>False:=by rw[axr];rfl
theorem aV(o:Nat):vP [] o=none:=rfl
theorem aR(a:Nat)(cs:List AV)(F:Fz)(o:Nat):vP ((a,cs)::F) o=if a=o then some cs else vP F o:=by
  unfold vP;rw[List.find?_cons];by_cases h:a=o
  · subst h;simp
  · rw[if_neg h,show(a==o)=false from by simpa using h]
theorem aL:kJ [] s=True:=by simp[kJ]
theorem aH(a:Nat)(cs:List AV)(F:Fz):kJ ((a,cs)::F) s=(s.aw a=some cs∧kJ F s):=by simp[kJ]
end
section
variable{N:Nat}{E:Env}{Q:Exit→Env→AS→Prop}
theorem cV(hm:P.follows .mixedOrders=true)(F:Fz)(fl ld lx:List Nat){id:Nat}{L:List Oper}(iZ:tj L.toArray (fh fl ld lx)=true)(hP:kJ F s)
    (h:∀K:Env→AS→Prop,(∀E s,Q .normal E s→K E s)→OE P Γ N L.toArray F fl ld lx 0 L K E s):ct P Γ N (.region id L.toArray true) Q E s:=by
  refine wF hm F (fh fl ld lx) (Jp fl ld lx) iZ hP ?_;have h1:=h _ fun _ _ h=>h;rw[axr] at h1;have h2:=iu (ops:=L.toArray) L 0 (fun j o hj=>by simpa using hj) h1;simpa[List.range_eq_range'] using h2
theorem ef(hm:P.follows .mixedOrders=true)(F:Fz)(fl ld lx:List Nat){id:Nat}{L:List Oper}{y:Code}(iZ:tj L.toArray (fh fl ld lx)=true)(hP:kJ F s)
    (h:∀K:Env→AS→Prop,(∀E s,ct P Γ N y Q E s→K E s)→OE P Γ N L.toArray F fl ld lx 0 L K E s):ct P Γ N (.seq (.region id L.toArray true) y) Q E s:=
  lh (cV hm F fl ld lx iZ hP fun K hK=>h K hK)
end
end Go.AM
namespace Go.AM
open Go Go.RowKit
variable{rd:Option Nat}{P:Program}{Γ:Nat→List AV}{G:Gh}{s:AS}{w:World}
theorem aQ.ext{w':World}(h:aQ Γ G s w)(hb:Below w.heap.size w w'):aQ Γ G s w' where
  ro b j u hu:=by
    have:=h.ro b j u hu;rw[hb.cell (World.block_lt_of_cell? w _ this)];exact this
  aw o cs hc:=by
    obtain⟨b,vs,h1,h2,h3,h4⟩:=h.aw o cs hc;have bJ:=h.cX o b h1;exact⟨b,vs,h1,h2,h3,fun j u hu=>⟨by rw[hb.cell (p:=⟨b,j,none⟩) bJ];exact(h4 j u hu).1,by rw[hb.frozen (p:=⟨b,j,none⟩) bJ];exact(h4 j u hu).2.1,(h4 j u hu).2.2⟩⟩
  cX o b KU:=Nat.lt_of_lt_of_le (h.cX o b KU) hb.size;inj:=h.inj;own t e he:=by
    obtain⟨b,st,en,h1,h2,h3,h4,h5,h6⟩:=h.own t e he;refine⟨b,st,en,h1,h2,h3,fun j hj kg=>?_,h5,Nat.lt_of_lt_of_le h6 hb.size⟩;obtain⟨⟨u,hu⟩,h7,h8⟩:=h4 j hj kg;exact⟨⟨u,by rw[hb.cell (p:=⟨b,j,none⟩) h6];exact hu⟩,by rw[hb.frozen (p:=⟨b,j,none⟩) h6];exact h7,h8⟩
  cJ:=h.cJ;bR:=h.bR;cF:=h.cF;cb:=h.cb;below:=h.below.trans (hb.mono h.base);others:=h.others.trans fun k o hk _=>(hb.block k (Array.getElem?_eq_some_iff.1 hk).1).trans hk;base:=Nat.le_trans h.base hb.size;gZ:=h.gZ;soft b c T lo hi hB hh:=by
    rw[hb.block b (h.xbF hB)] at hh;exact h.soft b c T lo hi hB hh
def View(Γ:Nat→List AV)(s:AS)(a b:AV):Prop:=∀G w u,aQ Γ G s w→av G a u→av (G0 w) b u
def xed(Γ:Nat→List AV)(s:AS)(as bs:List AV):Prop:=∀G w us,aQ Γ G s w→ar G as us→ar (G0 w) bs us
theorem aQ.cut{o:Nat}{ds r:List AV}(h:aQ Γ G (s.set o (ds++r)) w):aQ Γ G (s.set o ds) w where
  ro:=h.ro
  aw o' cs hc:=by
    by_cases e:o'=o
    · subst e;simp[AS.set] at hc;subst hc;obtain⟨b,vs,h1,h2,h3,h4⟩:=h.aw o' (ds++r) (by simp[AS.set]);refine⟨b,vs.take ds.length,h1,?_,h3,fun j u hj=>h4 j u ?_⟩
      · have:=h2.take ds.length;rwa [List.take_left] at this
      · rw[List.getElem?_take] at hj;split at hj
        · exact hj
        · cases hj
    · exact h.aw o' cs (by simpa[AS.set,aB,e] using hc)
  cX:=h.cX;inj:=h.inj;own:=h.own;cJ:=h.cJ;bR:=h.bR;cF:=h.cF;cb:=h.cb;below:=h.below;others:=h.others;base:=h.base;gZ:=h.gZ;soft:=h.soft
theorem uJ{y:AV}{u v:Value}{m:Nat}{ds:List AV}{T xT e:TypeId}{z:List AV}(hT:P.underlying T=some (.slice e))(hx:kR P (some xT)=true)(he:pt P e z)
    (eO:im (P.cellsOf e) s y=some (m,ds)) (hm:m≠0) (h1:m*P.bytesOf e≤2^46) (h2:m≤2^46) (ph:av G (.sl (P.cellsOf e) 0 [] .new) u) (wz:av G y v) (hs:aQ Γ G s w) (ty:TypeId):
    ∃G' z w' o cap,(Builtin.append_ #[T,xT] ty #[u,v]).run P w=.ok z w'∧G.le G'∧s.aw o=none∧m≤cap∧aQ Γ G' (s.set o ds) w'∧av G' (.ig o 0 (P.cellsOf e) m cap) z:=by
  obtain⟨us,hv,hlen,jf,fp⟩:=rG (P:=P) eO wz hs;simp only[av] at ph;rcases ph with⟨b,off,cap,vs,rfl,hl,B3,FV,qi,rE⟩|⟨_,_,a,cap,rfl,xB⟩|⟨_,_,hn,_⟩
  · simp only[eC] at rE;obtain⟨rfl,_⟩:=rE;obtain⟨kZ,rest,xc,zE,lH⟩:=iq (P:=P) (w:=w) jf hT hx he (base:=some ⟨b,off,none⟩) (n:=0) (cap:=0) (olds:=[]) (news:=us)
      (fun w' _=>run_firstCells_some w' _ _ _ _ _ [] (by simp) (by simp)) fp (by omega) (by simpa using h1) (by simpa using h2) ty
    simp only[Nat.zero_add,List.nil_append] at xc zE lH;obtain⟨o,k1,k2,k3,k4⟩:=hs.drew.newObj (cs:=ds++rest.map .v) (vs:=us++rest) (hv.append (ar.DK rest)) e;refine⟨_,_,_,o,kZ,lH,k2,k1,xc,k3.cut,?_⟩;simp only[av];exact⟨_,k4,rfl,xc⟩
  · rcases xB with h|h|⟨h,_⟩<;>cases h
  · cases hn
theorem dX{N:Nat}{ops:Array Oper}{Q:Exit→Act→World→Prop}{K:Env→AS→Prop}:∀(L:List Oper)(I J:List Nat){G:Gh}{E:Env}{s:AS}{a:Act}{w:World},I.map (ops[·]?)=L.map some→AX P Γ N ops L K E s→Rel Γ N G E s a w→
    (∀G' E' s' a' w',G.le G'→Rel Γ N G' E' s' a' w'→K E' s'→wpOpsIn (uD rd) 0 P ops Q J a' w')→wpOpsIn (uD rd) 0 P ops Q (I++J) a w
  |[],I,J,G,E,s,a,w,hI,h,hr,hq=>by
    have :I=[]:=(by simpa using hI);subst this;exact hq G E s a w (.refl G) hr h
  |o::L,I,J,G,E,s,a,w,hI,h,hr,hq=>by
    cases I with
    |nil=>simp at hI
    |cons i I=>
      simp only[List.map_cons,List.cons.injEq] at hI;rw[List.cons_append,wpOpsIn_cons];exact jZ hI.1 h hr fun G' E' s' a' w' h1 h2 h3=>dX L I J hI.2 h3 h2 fun vF ji ic zJ wA k1 k2 k3=>hq vF ji ic zJ wA (h1.trans k1) k2 k3
theorem zS{N:Nat}{E:Env}{Q:Exit→Env→AS→Prop}{id:Nat}{o1 o2 o3 o4:Oper}{x y:Operand}{T xT e:TypeId}{z:List AV}{d:Tmp}{code:Code}
    (ho:o3.op=.call {callee:=.builtin .append,args:=#[x,y],argTypes:=#[T,xT]}) (hg:o3.guard=none) (hd:o3.dst=some d) (hN:d<N)
    (hT:P.underlying T=some (.slice e)) (hx:kR P (some xT)=true) (hz:bo P e=some z) (hc:P.cellsOf e≠0) (sQ:z.length=P.cellsOf e)
    (h:AY P Γ N #[o1,o2,o3,o4] [o1,o2] (fun E1 s1=>aN Γ E1 x=.sl (P.cellsOf e) 0 [] .new∧∃m ds,im (P.cellsOf e) s1 (aN Γ E1 y)=some (m,ds)∧m≠0∧m*P.bytesOf e≤2^46∧m≤2^46∧
      ∀ob cap,s1.aw ob=none→m≤cap→AY P Γ N #[o1,o2,o3,o4] [o4] (fun E' s'=>ct P Γ N code Q E' s') (aB E1 d (.ig ob 0 (P.cellsOf e) m cap)) (s1.set ob ds)) E s):
    ct P Γ N (.seq (.region id #[o1,o2,o3,o4] false) code) Q E s:=by
  rw[ay] at h;refine lh ?_;intro G a w hr;refine wpIn_region ?_;have SH:List.range (#[o1,o2,o3,o4]:Array Oper).size=[0,1]++[2,3]:=(by simp;decide);rw[SH];refine dX [o1,o2] [0,1] [2,3] (by simp) (dI _ h) hr ?_;rintro G1 E1 s1 a1 w1 gy qZ ⟨⟨hxe,m,ds,eO,hm,Ci,Kj,hk⟩,Cj⟩;rw[wpOpsIn_cons];have ib:(#[o1,o2,o3,o4]:Array Oper)[2]? =some o3:=(by simp);simp only[wpOpIn,ib];rw[if_pos (eb hg)];have ph:=qZ.eval x;rw[hxe] at ph;obtain⟨G2,z2,w2,ob,cap,q1,q2,q3,q4,q5,q6⟩:=uJ hT hx ⟨hz,hc,sQ⟩ eO hm Ci Kj ph (qZ.eval y) qZ.st o3.type;refine Oper.ng (K:=fun r s'=>r=.ig ob 0 (P.cellsOf e) m cap∧s'=s1.set ob ds) qZ (fun d' Vp=>by rw[hd] at Vp;cases Vp;exact hN) ?_ ?_
  · rw[c7 ho];simp only[builtin];exact dE ⟨G2,z2,w2,_,_,by simpa using q1,q2,q5,q6,rfl,rfl⟩
  · rintro G3 r s3 a3 w3 Q6 re ⟨rfl,rfl⟩;rw[hd] at re;have hl:=dI _ (hk ob cap q3 q4);refine lK [o4] [3] (by simp) hl re ?_;rintro G4 E4 s4 a4 w4 Vq Dx ⟨SI,KV⟩;refine⟨G4,E4,s4,gy.trans (Q6.trans Vq),Dx,SI,?_⟩;intro i hi;have mem:∀L:List Oper,i∈cC L↔∃o∈L,o.dst=some i:=(fun L=>by simp[cC,List.mem_filterMap]);have aY:¬∃o∈[o1,o2,o3,o4],o.dst=some i:=fun hm=>hi ((mem [o1,o2,o3,o4]).2 hm);have h3:i∉cC [o4]:=fun hm=>aY (by obtain⟨o,k1,k2⟩:=(mem _).1 hm;exact⟨o,by simp at k1;simp[k1],k2⟩);have h1:i∉cC [o1,o2]:=fun hm=>aY (by obtain⟨o,k1,k2⟩:=(mem _).1 hm;exact⟨o,by simp at k1;rcases k1 with k1|k1<;>simp[k1],k2⟩);have h2:i≠d:=fun e=>aY ⟨o3,by simp,by rw[e];exact hd⟩;rw[KV i h3];simp only[bw,aB,if_neg h2];exact Cj i h1
end Go.AM
namespace Go.AM
open Go Go.RowKit
theorem aj.anyS{P:Program}{Γ:Nat→List AV}{f:FuncId}{post:List AV}{sz n:Nat}{cs:List AV}{s:AS}{Q:AV→AS→Prop}(h0:n=0→cs=[]→aj P Γ f (bU::post) s Q)(h1:aj P Γ f (.sl sz n cs .no::post) s Q):
    aj P Γ f (.sl sz n cs .any::post) s Q:=by
  intro G w vs hs hv;simp only[ar] at hv;obtain⟨u,us,rfl,k1,k2⟩:=hv;rcases av.any k1 with⟨h3,h5,h4⟩|h3
  · exact h0 h3 h5 G w _ hs (by simp only[ar];exact⟨u,us,rfl,h4,k2⟩)
  · exact h1 G w _ hs (by simp only[ar];exact⟨u,us,rfl,h3,k2⟩)
end Go.AM
